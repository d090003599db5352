/- Part 3 of what the proof stands on: W18f, W21a, W21b, GkZ, GkO, W18k, W18g, Rk, W16a, Srt, W16c, W16d, W16e. -/
import Derived.Test.YtadhiihnnkcagaaGreatDoorM2PB
import Derived.Below
import Derived.ChangeSame
import Derived.Carry
import Derived.ChangeSlices
import Derived.Deep.Strs
import Derived.DataElems
import Derived.Lib.LaidTab
import Derived.Test.YtadhiihnnkcagaaGreatDoorChecked
namespace Go.Proofs.YtadhiihnnkcagaaGreatDoor
open Gk Pc Ul Pat
set_option linter.unusedVariables false
set_option linter.unusedSimpArgs false
theorem info9_154 : Tryz.prog.info? 9 = some Tryz.t9 := by kernel_rfl
structure Known (I : Im) : Prop where
 dig : DigAt I
 pow : ∀ (B w : World) (As : List Assn), Sat B w I As → Go.Lib.TabIs Tryz.prog w "internal/strconv.uint64pow10" .u64 Go.Lib.pow10Tab
 max : ∀ (B w : World) (As : List Assn), Sat B w I As → ∃ m, w.cell? ⟨2, 0, none⟩ = some (.int .i64 m)
theorem Known.mono {I J : Im} (h : Known I) (hl : Le I J) : Known J :=
 have e : ∀ (B w : World) (As : List Assn), Sat B w J As → Sat B w I As := fun B w As ⟨g, h1, h2⟩ => ⟨g, h1, h2.os, h2.tape, h2.output, fun b o hi => h2.imm b o (hl b o hi), h2.own, h2.nodup, fun b o hm => by
  cases hi : I b with
  | none => rfl
  | some x => have := h2.apart b o hm; rw [hl b x hi] at this; cases this⟩
 ⟨h.dig.mono hl, fun B w As s => h.pow B w As (e B w As s), fun B w As s => h.max B w As (e B w As s)⟩
theorem drewN_sat {B w : World} {I : Im} {As : List Assn} (hS : Sat B w I As) (n : Nat) : Sat B (w.drewN n) I As := hS.world rfl rfl rfl rfl
theorem grow_sat {B w : World} {I : Im} {As : List Assn} (hS : Sat B w I As) (os : Array Obj) : Sat B (Go.Sort.grow w os) I As :=
 hS.grown ⟨rfl, rfl, rfl, by simp [Go.Sort.grow], fun k hk => by simp [Go.Sort.grow, Array.getElem?_append, hk]⟩
theorem Itoa_any (n : Nat) (hn : n ≤ 65535) (B w : World) (I : Im) (hK : Known I) (As : List Assn) (hS : Sat B w I As) : Calls Tryz.prog 189 [I64 (n : Nat)].toArray w (Ret fun v w' => v = S (Go.Lib.decDigits n) ∧ Sat B w' I As) :=
 (Tryz.strconv_Itoa n (by omega) (by omega) w (hK.pow B w As hS)).mono fun e w' he => by
  obtain ⟨rfl, k, os, rfl⟩ := he
  refine ⟨_, rfl, ?_, grow_sat (drewN_sat hS k) os⟩
  unfold Go.Lib.itoa
  rw [if_neg (by omega), Int.toNat_natCast]
theorem CutSign_any (s : List UInt8) (hs : s.length ≤ 1000000) (B w : World) (I : Im) (hK : Known I) (As : List Assn) (hS : Sat B w I As) : Calls Tryz.prog 146 [S s, S SIGN].toArray w (Ret fun v w' => v = .tuple #[S (Go.Lib.cut s SIGN).1, S (Go.Lib.cut s SIGN).2.1, .bool (Go.Lib.cut s SIGN).2.2] ∧ Sat B w' I As) := by
 obtain ⟨m, hm⟩ := hK.max B w As hS
 refine (Tryz.strings_Cut ⟨s.toArray⟩ ⟨SIGN.toArray⟩ m w (by show s.length < _; omega) hm).mono fun e w' he => ?_
 obtain ⟨rfl, n, rfl⟩ := he
 exact ⟨_, rfl, rfl, drewN_sat hS n⟩
theorem CutOne_any (s : List UInt8) (c : UInt8) (hs : s.length ≤ 1000000) (B w : World) (I : Im) (hK : Known I) (As : List Assn) (hS : Sat B w I As) : Calls Tryz.prog 146 [S s, S [c]].toArray w (Ret fun v w' => v = .tuple #[S (upto [c] s), S ((from_ [c] s).drop 1), .bool (!(from_ [c] s).isEmpty)] ∧ Sat B w' I As) := by
 obtain ⟨m, hm⟩ := hK.max B w As hS
 refine (Tryz.strings_Cut ⟨s.toArray⟩ ⟨[c].toArray⟩ m w (by show s.length < _; omega) hm).mono fun e w' he => ?_
 obtain ⟨rfl, n, rfl⟩ := he
 refine ⟨_, rfl, ?_, drewN_sat hS n⟩
 show Value.tuple #[S (Go.Lib.cut s [c]).1, S (Go.Lib.cut s [c]).2.1, .bool (Go.Lib.cut s [c]).2.2] = _
 rw [cut_one]
theorem strs_of (l : List ByteArray) : l.map Value.string = (l.map (·.data.toList)).map S := by
 rw [List.map_map]
 rfl
theorem Split_any (s : List UInt8) (hs : s.length ≤ 1000000) (B w : World) (I : Im) (hK : Known I) (As : List Assn) (hS : Sat B w I As) : Calls Tryz.prog 188 [S s, S [47]].toArray w (Ret fun v w' => ∃ b, v = .slice (some (ad b 0)) (spl s).length (spl s).length ∧ Sat B w' I (blk b ((spl s).map S) 9 :: As)) := by
 obtain ⟨m, hm⟩ := hK.max B w As hS
 refine (Tryz.strings_Split ⟨s.toArray⟩ ⟨[47].toArray⟩ m w (by show s.length < _; omega) hm (by decide)).mono fun e w' he => ?_
 obtain ⟨rfl, rfl⟩ := he
 have e1 : (spl s).length = Go.Lib.countB ⟨s.toArray⟩ ⟨[47].toArray⟩ + 1 := spl_len _ s (Nat.le_refl _)
 have e2 : (Go.Lib.splitB ⟨[47].toArray⟩ 0 (Go.Lib.countB ⟨s.toArray⟩ ⟨[47].toArray⟩) ⟨s.toArray⟩).map Value.string = (spl s).map S := by
  rw [strs_of, Go.Lib.splitB_data]
  show List.map S (Go.Lib.splitK [47] 0 (Go.Lib.count s [47]) s) = _
  rw [splitK_spl _ s (Nat.le_refl _)]
 refine ⟨_, rfl, w.heap.size, by rw [e1], ?_⟩
 rw [e2]
 exact hS.alloc _
set_option maxHeartbeats 800000 in
theorem Dots_any (p : List UInt8) (hl : p.length ≤ 1000000) (B w : World) (I : Im) (hK : Known I) (As : List Assn) (hS : Sat B w I As) :
  Calls Tryz.prog 154 [S p].toArray w (Ret fun v w' => v = S (dots p) ∧ Sat B w' I As) := by
 refine calls Tryz.func154 rfl Tryz.ntmps154 rfl (.seq (.region (.run 1 rfl trivial (.nil (.scope (.seq (.seq (.region (.run 1 rfl trivial (.call Tryz.func151 rfl (evs_cons (.of rfl) (evs_cons (.of rfl) evs_nil)) rfl (HasPrefix_any p [47] _ (by omega) (by decide)) ?_))))))))))
 rintro _ _ ⟨rfl, rfl⟩
 refine .run 1 rfl trivial (.nil ?_)
 refine WC.cond rfl (fun hb12 => ?_) (fun hb12 => ?_)
 ·
  have hc12 := hb12; try simp only [Gk.cs0] at hc12
  refine .seq (.region (.run 2 rfl trivial (.nil (.ret (ret1 Tryz.results154 rfl ?_)))))
  refine ⟨_, rfl, ?_, hS⟩
  cases p with
  | nil => rfl
  | cons a b => rw [dots, if_neg (fun e => by subst e; simp [hasPre] at hb12; omega)]
 have hc12 := hb12; try simp only [Gk.cs0] at hc12
 refine .skip (.seq (.region (.run 1 rfl trivial (.nil (.seq (.region (.run 1 rfl trivial (.nil (.seq (.label (.seq (.seq ?_))))))))))))
 have hp1 : 1 ≤ p.length := by cases p with | nil => simp [hasPre] at hb12 | cons a b => simp
 have hpn := len_tot (spl (p.drop 1))
 rw [spl_tot, List.length_drop] at hpn
 refine .region (.run 1 rfl trivial (.val (.subFrom (.of rfl) (.of rfl) (by omega) (by omega) Tryz.underlying9) rfl ?_))
 refine WL.call Tryz.func188 rfl (evs_cons (.of rfl) (evs_cons (.of rfl) evs_nil)) rfl (Split_any (p.drop 1) (by rw [List.length_drop]; omega) B _ I hK As hS) ?_
 clear hS
 rintro _ w ⟨b16, rfl, hS⟩
 refine .run 2 rfl ⟨⟨_, Tryz.underlying41⟩, trivial⟩ (.nil (.block ?_))
 replace hS := hS.vecNil 9 1
 refine .loop (σ := Value × Nat) (fun ⟨kv, i⟩ => [(3, kv), (4, .bool (decide (0 < i) && isDot ((spl (p.drop 1)).getD (i - 1) []))), (16, .slice (some (ad b16 0)) (spl (p.drop 1)).length (spl (p.drop 1)).length), (17, I64 ((spl (p.drop 1)).length : Nat)), (18, I64 (i : Nat))]) (fun ⟨kv, i⟩ w => i ≤ (spl (p.drop 1)).length ∧ Sat B w I (Vec 9 1 kv (List.foldl keep [] ((spl (p.drop 1)).take i)).length ((List.foldl keep [] ((spl (p.drop 1)).take i)).map S) :: blk b16 ((spl (p.drop 1)).map S) 9 :: As)) (fun ⟨kv, i⟩ => (spl (p.drop 1)).length - i) (.slice none 0 0, 0) ⟨rfl, rfl, rfl, rfl, rfl, trivial⟩ ⟨Nat.zero_le _, hS⟩ ?_
 rintro ⟨kv, i⟩ w ⟨hi, hS⟩
 change WC _ _ _ _ [(3, kv), (4, .bool (decide (0 < i) && isDot ((spl (p.drop 1)).getD (i - 1) []))), (16, .slice (some (ad b16 0)) (spl (p.drop 1)).length (spl (p.drop 1)).length), (17, I64 ((spl (p.drop 1)).length : Nat)), (18, I64 (i : Nat))] w
 refine .seq (.region (.run 1 rfl trivial (.nil (.seq ?_))))
 refine WC.cond rfl (fun hb19 => ?_) (fun hb19 => ?_)
 ·
  have hc19 := hb19; try simp only [Gk.cs0] at hc19
  refine .skip (.seq (.block (.seq ?_)))
  obtain ⟨x, hx⟩ : ∃ x, (spl (p.drop 1))[i]? = some x := ⟨_, List.getElem?_eq_getElem (by omega)⟩
  have hKn : (List.foldl keep [] ((spl (p.drop 1)).take (i + 1))) = keep (List.foldl keep [] ((spl (p.drop 1)).take i)) x := by rw [List.take_add_one, hx, List.foldl_append]; rfl
  have hgd : (spl (p.drop 1)).getD i [] = x := by rw [List.getD_eq_getElem?_getD, hx]; rfl
  have hop : (decide (0 < i + 1) && isDot ((spl (p.drop 1)).getD (i + 1 - 1) [])) = isDot x := by rw [Nat.add_sub_cancel, hgd, decide_eq_true (by omega), Bool.true_and]
  obtain ⟨ka, kc, rfl, hkc, _⟩ := hS.vecSlice (k := 0) (v := kv) rfl
  have hKl : (List.foldl keep [] ((spl (p.drop 1)).take i)).length ≤ 1000001 := by
   have h1 := len_tot (List.foldl keep [] ((spl (p.drop 1)).take i))
   have h2 := tot_fold ((spl (p.drop 1)).take i) []
   have h3 : tot (spl (p.drop 1)) = tot ((spl (p.drop 1)).take i) + tot ((spl (p.drop 1)).drop i) := by rw [← tot_app, List.take_append_drop]
   have h4 := spl_tot (p.drop 1)
   rw [List.length_drop] at h4
   rw [show tot [] = 0 from rfl] at h2
   omega
  refine .region (.val (.indexAddr (.of rfl) (.of rfl) (by omega) (by omega) Tryz.underlying41 Tryz.sizeOf9) rfl ?_)
  refine WL.val (.ld (v := S x) (.of rfl) hS (k := 1) rfl Tryz.isAgg9 (by rw [Nat.zero_add, Int.toNat_natCast, Nat.mul_one, List.getElem?_map, hx]; rfl)) rfl ?_
  refine .run 1 rfl trivial (.nil (.seq (.region (.run 1 rfl trivial (.nil (.seq (.seq (.region (.run 1 rfl trivial (.nil (.block (.seq (.region (.run 2 rfl trivial (.nil ?_)))))))))))))))
  refine WC.cond rfl (fun hb23 => ?_) (fun hb23 => ?_)
  ·
   have hc23 := hb23; try simp only [Gk.cs0] at hc23
   refine .exit (.region (.run 2 rfl ⟨⟨by omega, by omega⟩, trivial⟩ (.nil ?_)))
   refine ⟨(_, i + 1), ⟨rfl, by show some (Value.bool _) = some _; rw [hop]; rw [show x = [46] by simpa using hb23]; rfl, rfl, rfl, rfl, trivial⟩, ⟨by omega, ?_⟩, by (try dsimp only); omega⟩
   rw [hKn, keep, if_pos (by simpa using hb23)]
   exact hS
  have hc23 := hb23; try simp only [Gk.cs0] at hc23
  refine .seq (.region (.run 2 rfl trivial (.nil ?_)))
  refine WC.cond rfl (fun hb25 => ?_) (fun hb25 => ?_)
  ·
   have hc25 := hb25; try simp only [Gk.cs0] at hc25
   refine .seq (.region (.run 4 rfl ⟨⟨_, Tryz.underlying41⟩, ⟨by omega, by omega⟩, trivial⟩ (.val (.max2 (.of rfl) (.of rfl)) rfl (.val (.slcTo (.of rfl) (.of rfl) (by omega) (by omega) Tryz.underlying41 Tryz.sizeOf9) rfl ?_))))
   obtain ⟨a2, c2, e2, hS⟩ := hS.vecTakeI (m := (max 0 (((List.foldl keep [] ((spl (p.drop 1)).take i)).length : Int) - 1)).toNat) (l := (List.foldl keep [] ((spl (p.drop 1)).take i))) (k := 0) rfl (by omega)
   rw [e2]
   rw [show (max 0 (((List.foldl keep [] ((spl (p.drop 1)).take i)).length : Int) - 1)).toNat = (List.foldl keep [] ((spl (p.drop 1)).take i)).length - 1 by omega] at hS ⊢
   refine .run 1 rfl trivial (.nil (.exit (.region (.run 2 rfl ⟨⟨by omega, by omega⟩, trivial⟩ (.nil ?_)))))
   refine ⟨(_, i + 1), ⟨rfl, by show some (Value.bool _) = some _; rw [hop]; rw [show x = [46, 46] by simpa using hb25]; rfl, rfl, rfl, rfl, trivial⟩, ⟨by omega, ?_⟩, by (try dsimp only); omega⟩
   rw [hKn, keep, if_neg (by simpa using hb23), if_pos (by simpa using hb25), List.dropLast_eq_take]
   exact hS
  have hc25 := hb25; try simp only [Gk.cs0] at hc25
  refine .skip (.seq (.region (.run 1 rfl trivial (.nil (.region (.run 2 rfl trivial (.buildSlice (cs := [_]) hS (parts_cons (.of rfl) parts_nil) Tryz.underlying41 Tryz.sizeOf9 Tryz.zeroValue9 rfl rfl rfl rfl ?_)))))))
  clear hS; intro b35 w hS
  refine WL.append (size := 1) (bytes := 16) hS (.of rfl) (.of rfl) (k := 0) rfl Tryz.underlying41 info9_154 rfl rfl rfl rfl rfl rfl rfl ⟨by omega, by unfold maxLen; omega⟩ rfl ?_
  clear hS; intro v36 w hS; try dsimp only [List.set] at hS
  obtain ⟨a36, c36, rfl, hcap36, _⟩ := hS.vecSlice (k := 0) (v := v36) rfl
  refine .run 1 rfl trivial (.nil (.region (.run 2 rfl ⟨⟨by omega, by omega⟩, trivial⟩ (.nil ?_))))
  refine ⟨(_, i + 1), ⟨rfl, by show some (Value.bool _) = some _; rw [hop]; rw [isDot, show (x == [46]) = false by simpa using hb23, show (x == [46, 46]) = false by simpa using hb25]; rfl, rfl, rfl, rfl, trivial⟩, ⟨by omega, ?_⟩, by (try dsimp only); omega⟩
  rw [hKn, keep, if_neg (by simpa using hb23), if_neg (by simpa using hb25), List.map_append, List.length_append]
  exact hS
 have hc19 := hb19; try simp only [Gk.cs0] at hc19
 refine .exit (.seq ?_)
 have hin : i = (spl (p.drop 1)).length := by omega
 subst hin
 rw [List.take_length] at hS
 obtain ⟨ka, kc, rfl, hkc, _⟩ := hS.vecSlice (k := 0) (v := kv) rfl
 have htot := tot_fold (spl (p.drop 1)) []
 rw [spl_tot, show tot [] = 0 from rfl, Nat.zero_add, List.length_drop] at htot
 have hkt := len_tot (List.foldl keep [] (spl (p.drop 1)))
 refine .region (.run 1 rfl trivial (.nil (.seq (.seq (.region (.run 3 rfl ⟨⟨_, Tryz.underlying41⟩, trivial⟩ (.nil (.block (.loop (σ := Nat) (fun j => [(3, .slice ka (List.foldl keep [] (spl (p.drop 1))).length kc), (4, .bool (decide (0 < (spl (p.drop 1)).length) && isDot ((spl (p.drop 1)).getD ((spl (p.drop 1)).length - 1) []))), (38, .slice ka (List.foldl keep [] (spl (p.drop 1))).length kc), (39, I64 ((List.foldl keep [] (spl (p.drop 1))).length : Nat)), (40, I64 (j : Nat)), (7, S (slashed ((List.foldl keep [] (spl (p.drop 1))).take j)))]) (fun j w => j ≤ (List.foldl keep [] (spl (p.drop 1))).length ∧ Sat B w I (Vec 9 1 (.slice ka (List.foldl keep [] (spl (p.drop 1))).length kc) (List.foldl keep [] (spl (p.drop 1))).length ((List.foldl keep [] (spl (p.drop 1))).map S) :: blk b16 ((spl (p.drop 1)).map S) 9 :: As)) (fun j => (List.foldl keep [] (spl (p.drop 1))).length - j) 0 ⟨rfl, rfl, rfl, rfl, rfl, rfl, trivial⟩ ⟨Nat.zero_le _, hS⟩ ?_)))))))))
 rintro j w ⟨hj, hS⟩
 change WC _ _ _ _ [(3, .slice ka (List.foldl keep [] (spl (p.drop 1))).length kc), (4, .bool (decide (0 < (spl (p.drop 1)).length) && isDot ((spl (p.drop 1)).getD ((spl (p.drop 1)).length - 1) []))), (38, .slice ka (List.foldl keep [] (spl (p.drop 1))).length kc), (39, I64 ((List.foldl keep [] (spl (p.drop 1))).length : Nat)), (40, I64 (j : Nat)), (7, S (slashed ((List.foldl keep [] (spl (p.drop 1))).take j)))] w
 refine .seq (.region (.run 1 rfl trivial (.nil (.seq ?_))))
 refine WC.cond rfl (fun hb41 => ?_) (fun hb41 => ?_)
 ·
  have hc41 := hb41; try simp only [Gk.cs0] at hc41
  refine .skip (.seq (.block (.seq ?_)))
  obtain ⟨x, hx⟩ : ∃ x, (List.foldl keep [] (spl (p.drop 1)))[j]? = some x := ⟨_, List.getElem?_eq_getElem (by omega)⟩
  have hsn : slashed ((List.foldl keep [] (spl (p.drop 1))).take (j + 1)) = slashed ((List.foldl keep [] (spl (p.drop 1))).take j) ++ 47 :: x := by rw [List.take_add_one, hx]; exact slashed_app _ _
  have hsl : (slashed ((List.foldl keep [] (spl (p.drop 1))).take j)).length + (x.length + 1) ≤ tot (List.foldl keep [] (spl (p.drop 1))) := by
   rw [show x.length + 1 = (47 :: x).length from rfl, ← List.length_append, ← hsn, slashed_len]
   have : tot (List.foldl keep [] (spl (p.drop 1))) = tot ((List.foldl keep [] (spl (p.drop 1))).take (j + 1)) + tot ((List.foldl keep [] (spl (p.drop 1))).drop (j + 1)) := by rw [← tot_app, List.take_append_drop]
   omega
  obtain ⟨g19, rest19, hS19⟩ : ∃ g rest, ka = some (ad g 0) ∧ Sat B w I (blk g ((List.foldl keep [] (spl (p.drop 1))).map S ++ rest) 9 :: blk b16 ((spl (p.drop 1)).map S) 9 :: As) := by
   obtain ⟨g, c, rest, hv, _, _, _, _, hs⟩ := hS.vecOpen (k := 0) rfl (by omega)
   injection hv with hv1 hv2 hv3
   exact ⟨g, rest, hv1, hs⟩
  obtain ⟨rfl, hS19⟩ := hS19
  refine .region (.val (.indexAddr (b := g19) (o := 0) (.of rfl) (.of rfl) (by omega) (by omega) Tryz.underlying41 Tryz.sizeOf9) rfl ?_)
  refine WL.val (.ld (v := S x) (.of rfl) hS19 (k := 0) rfl Tryz.isAgg9 (by rw [Nat.zero_add, Int.toNat_natCast, Nat.mul_one, List.getElem?_append_left (by rw [List.length_map]; omega), List.getElem?_map, hx]; rfl)) rfl ?_
  clear hS19
  refine .run 1 rfl trivial (.nil (.region ?_))
  refine WL.run 5 rfl ⟨by (try simp only [List.length_append, List.length_cons, List.length_nil]); omega, by (try simp only [List.length_append, List.length_cons, List.length_nil]); omega, trivial⟩ ?_
  refine .nil (.region (.run 2 rfl ⟨⟨by omega, by omega⟩, trivial⟩ (.nil ?_)))
  refine ⟨j + 1, ⟨rfl, rfl, rfl, rfl, rfl, by show some (S _) = some _; rw [hsn]; simp, trivial⟩, ⟨by omega, hS⟩, by omega⟩
 have hc41 := hb41; try simp only [Gk.cs0] at hc41
 refine .exit (.seq (.seq ?_))
 have hjn : (List.foldl keep [] (spl (p.drop 1))).take j = (List.foldl keep [] (spl (p.drop 1))) := List.take_of_length_le (by omega)
 have hsl2 : (slashed ((List.foldl keep [] (spl (p.drop 1))).take j)).length ≤ tot (List.foldl keep [] (spl (p.drop 1))) := by rw [hjn, slashed_len]; exact Nat.le_refl _
 refine .region (.run 2 rfl trivial (.gval rfl rfl (fun hg1 => (.move (.of rfl))) rfl (.gval rfl rfl (fun hg1 => (.lenSlice (.gd hg1 rfl) Tryz.underlying41)) rfl (.gval rfl rfl (fun hg1 => (.eql (.gd hg1 rfl) (.of rfl))) rfl (.val (.por (.of rfl) (.of rfl) (.of rfl)) rfl (.nil ?_))))))
 refine WC.cond rfl (fun hb54 => ?_) (fun hb54 => ?_)
 ·
  have hc54 := hb54; try simp only [Gk.cs0] at hc54
  refine .region ?_
  refine WL.run 3 rfl ⟨by (try simp only [List.length_append, List.length_cons, List.length_nil]); omega, trivial⟩ ?_
  refine .nil (.seq (.region (.run 2 rfl trivial (.nil (.ret (ret1 Tryz.results154 rfl ?_))))))
  have hjn : (List.foldl keep [] (spl (p.drop 1))).take j = (List.foldl keep [] (spl (p.drop 1))) := List.take_of_length_le (by omega)
  rw [hjn]
  have hlast : (decide (0 < (spl (p.drop 1)).length) && isDot ((spl (p.drop 1)).getD ((spl (p.drop 1)).length - 1) [])) = isDot ((spl (p.drop 1)).getLastD []) := by
   have hne := spl_ne (p.drop 1)
   have hp0 : 0 < (spl (p.drop 1)).length := List.length_pos_iff.2 hne
   rw [decide_eq_true hp0, Bool.true_and]
   congr 1
   rw [List.getLastD_eq_getLast?, List.getLast?_eq_getElem?, List.getD_eq_getElem?_getD]
  have hpc : p = 47 :: p.drop 1 := by
   cases p with
   | nil => simp [hasPre] at hb12
   | cons a b => simp [hasPre] at hb12; rw [hb12.2]; rfl
  have hall : dots p = slashed (List.foldl keep [] (spl (p.drop 1))) ++ (if isDot ((spl (p.drop 1)).getLastD []) || (List.foldl keep [] (spl (p.drop 1))).length == 0 then [47] else []) := by rw [hpc, dots, if_pos rfl]; rfl
  refine ⟨_, rfl, ?_, (hS.drop (k := 0) rfl).drop (k := 0) rfl⟩
  rw [hall]
  rw [if_pos (by rw [← hlast]; simpa using hb54)]
 have hc54 := hb54; try simp only [Gk.cs0] at hc54
 refine .skip (.seq (.region (.run 2 rfl trivial (.nil (.ret (ret1 Tryz.results154 rfl ?_))))))
 have hjn : (List.foldl keep [] (spl (p.drop 1))).take j = (List.foldl keep [] (spl (p.drop 1))) := List.take_of_length_le (by omega)
 rw [hjn]
 have hlast : (decide (0 < (spl (p.drop 1)).length) && isDot ((spl (p.drop 1)).getD ((spl (p.drop 1)).length - 1) [])) = isDot ((spl (p.drop 1)).getLastD []) := by
  have hne := spl_ne (p.drop 1)
  have hp0 : 0 < (spl (p.drop 1)).length := List.length_pos_iff.2 hne
  rw [decide_eq_true hp0, Bool.true_and]
  congr 1
  rw [List.getLastD_eq_getLast?, List.getLast?_eq_getElem?, List.getD_eq_getElem?_getD]
 have hpc : p = 47 :: p.drop 1 := by
  cases p with
  | nil => simp [hasPre] at hb12
  | cons a b => simp [hasPre] at hb12; rw [hb12.2]; rfl
 have hall : dots p = slashed (List.foldl keep [] (spl (p.drop 1))) ++ (if isDot ((spl (p.drop 1)).getLastD []) || (List.foldl keep [] (spl (p.drop 1))).length == 0 then [47] else []) := by rw [hpc, dots, if_pos rfl]; rfl
 refine ⟨_, rfl, ?_, (hS.drop (k := 0) rfl).drop (k := 0) rfl⟩
 rw [hall]
 rw [if_neg (by rw [← hlast, Bool.not_eq_true]; simpa using hb54), List.append_nil]
end Go.Proofs.YtadhiihnnkcagaaGreatDoor
namespace Go.Proofs.YtadhiihnnkcagaaGreatDoor
open Gk Ul Pc Tk Tr
set_option linter.unusedVariables false
set_option linter.unusedSimpArgs false
def PREV : List (List UInt8) := [[], pre 1, pre 2, pre 3, pre 4, pre 5, pre 6]
def PreAt (I : Im) : Prop := At I (ad 0 0) (PREV.map S)
theorem PreAt.mono {I J : Im} (h : PreAt I) (hl : Le I J) : PreAt J := At.mono h hl
theorem pre_get {k : Nat} (h : k < 7) : (((PREV.map S).drop (k * 1)))[0]? = some (S (pre k)) := by
 match k, h with
 | 0, _ => rfl
 | 1, _ => rfl
 | 2, _ => rfl
 | 3, _ => rfl
 | 4, _ => rfl
 | 5, _ => rfl
 | 6, _ => rfl
def preI (k : Int) : List UInt8 := if k < 1 ∨ 6 < k then [] else pre k.toNat
theorem Ex.slcArr {P : Program} {n : Nat} {L : Env} {w : World} {d : Option Nat} {ty : TypeId} {pos : String} {af : Array Edge} {gg : Option (Nat × Bool)} {t e : TypeId} {x : Operand} {p : Addr} {m s : Nat} (hx : Ev n L x (.pointer (some p))) (ht : P.underlying t = some (.array m e)) (hs : ∀ w, (Go.sizeOf e).run P w = .ok s w) :
  Ex P n L w ⟨d, .slice t x none none none, ty, pos, af, gg⟩ (.slice (some (if m = 0 then p else p.add (0 * s))) (m - 0) (m - 0)) w := fun a ha => by
 obtain ⟨e1, e2⟩ := elem_arr ht
 have h := run_sliceAt_array_all (P := P) w t p (by rw [e1, e2]; exact ht)
 rw [e1, e2, hs] at h
 simp [execOp, hx a ha, h, slicedAt]
def idxT (p : List UInt8) : List (List UInt8) → Nat → Int
 | [], _ => -1
 | x :: r, i => if p = x then (i : Int) else idxT p r (i + 1)
theorem idxT_skip (p : List UInt8) : ∀ (n : Nat) (r : List (List UInt8)) (i : Nat), (∀ (j : Nat) x, j < n → r[j]? = some x → p ≠ x) → idxT p r i = idxT p (r.drop n) (i + min n r.length)
 | 0, r, i, _ => by simp
 | n + 1, [], i, _ => by simp [idxT]
 | n + 1, x :: r, i, h => by
  rw [idxT, if_neg (h 0 x (by omega) rfl), idxT_skip p n r (i + 1) (fun j y hj hy => h (j + 1) y (by omega) (by simpa using hy)), List.drop_succ_cons, List.length_cons]
  congr 1
  omega
theorem idxT_hit {p : List UInt8} {l : List (List UInt8)} {i : Nat} (h : ∀ (j : Nat) x, j < i → l[j]? = some x → p ≠ x) (hs : l[i]? = some p) : idxT p l 0 = (i : Int) := by
 have hi := (List.getElem?_eq_some_iff.1 hs).1
 rw [idxT_skip p i l 0 h, Nat.zero_add, Nat.min_eq_left (by omega), List.drop_eq_getElem_cons hi, (List.getElem?_eq_some_iff.1 hs).2, idxT, if_pos rfl]
theorem idxT_none {p : List UInt8} {l : List (List UInt8)} (h : ∀ (j : Nat) x, l[j]? = some x → p ≠ x) : idxT p l 0 = -1 := by
 rw [idxT_skip p l.length l 0 (fun j x _ hx => h j x hx), List.drop_length]
 rfl
theorem kind_idx (p : List UInt8) : (1 ≤ idxT p PREV 0 → kindOf p ≠ 0 ∧ idxT p PREV 0 = (kindOf p : Int)) ∧ (¬ 1 ≤ idxT p PREV 0 → kindOf p = 0) := by
 unfold PREV kindOf
 simp only [idxT]
 by_cases h0 : p = []
 ·subst h0
  exact ⟨fun h => by simp at h, fun _ => by decide⟩
 rw [if_neg h0]
 by_cases h1 : p = pre 1
 ·rw [if_pos h1, if_pos h1]; exact ⟨fun _ => ⟨by decide, by decide⟩, fun h => absurd (by decide) h⟩
 rw [if_neg h1, if_neg h1]
 by_cases h2 : p = pre 2
 ·rw [if_pos h2, if_pos h2]; exact ⟨fun _ => ⟨by decide, by decide⟩, fun h => absurd (by decide) h⟩
 rw [if_neg h2, if_neg h2]
 by_cases h3 : p = pre 3
 ·rw [if_pos h3, if_pos h3]; exact ⟨fun _ => ⟨by decide, by decide⟩, fun h => absurd (by decide) h⟩
 rw [if_neg h3, if_neg h3]
 by_cases h4 : p = pre 4
 ·rw [if_pos h4, if_pos h4]; exact ⟨fun _ => ⟨by decide, by decide⟩, fun h => absurd (by decide) h⟩
 rw [if_neg h4, if_neg h4]
 by_cases h5 : p = pre 5
 ·rw [if_pos h5, if_pos h5]; exact ⟨fun _ => ⟨by decide, by decide⟩, fun h => absurd (by decide) h⟩
 rw [if_neg h5, if_neg h5]
 by_cases h6 : p = pre 6
 ·rw [if_pos h6, if_pos h6]; exact ⟨fun _ => ⟨by decide, by decide⟩, fun h => absurd (by decide) h⟩
 rw [if_neg h6, if_neg h6]
 exact ⟨fun h => absurd h (by decide), fun _ => rfl⟩
theorem IndexT_any (a : Option Addr) (c : Nat) (l : List (List UInt8)) (hll : l.length ≤ 100000) (p : List UInt8) (B w : World) (I : Im) (hA : RS I a 1 l.length (l.map S)) (As : List Assn) (hS : Sat B w I As) :
  Calls Tryz.prog 141 [.slice a l.length c, S p].toArray w (Ret fun v w' => v = I64 (idxT p l 0) ∧ Sat B w' I As) := by
 refine calls Tryz.func141 rfl Tryz.ntmps141 rfl (.seq (.region (.run 1 rfl trivial (.nil (.seq (.seq (.region (.run 3 rfl ⟨⟨_, Tryz.underlying41⟩, trivial⟩ (.nil (.block (.loop (σ := Nat) (fun i => [(0, .slice a l.length c), (1, S p), (7, I64 (l.length : Nat)), (8, I64 (i : Nat))]) (fun i w => i ≤ l.length ∧ (∀ (j : Nat) x, j < i → l[j]? = some x → p ≠ x) ∧ Sat B w I As) (fun i => l.length - i) 0 ⟨rfl, rfl, rfl, rfl, trivial⟩ ⟨Nat.zero_le _, fun _ _ h => absurd h (by omega), hS⟩ ?_)))))))))))
 rintro i w ⟨hi, hno, hS⟩
 change WC _ _ _ _ [(0, .slice a l.length c), (1, S p), (7, I64 (l.length : Nat)), (8, I64 (i : Nat))] w
 refine .seq (.region (.run 1 rfl trivial (.nil (.seq ?_))))
 refine WC.cond rfl (fun hb9 => ?_) (fun hb9 => ?_)
 ·
  have hc9 := hb9; try simp only [Gk.cs0] at hc9
  refine .skip (.seq (.block (.seq ?_)))
  obtain ⟨x, hx⟩ : ∃ x, l[i]? = some x := ⟨_, List.getElem?_eq_getElem (by omega)⟩
  obtain ⟨q, rfl, hq⟩ := hA.2 (by omega)
  have hqx : ((l.map S).drop ((i : Int).toNat * 1))[0]? = some (S x) := by rw [List.getElem?_drop, Int.toNat_natCast, Nat.mul_one, Nat.add_zero, List.getElem?_map, hx]; rfl
  refine .region (.run 2 rfl trivial (.nil (.seq (.region (.run 3 rfl trivial (.val (.indexAddrI (.of rfl) (.of rfl) (by omega) (by omega) Tryz.underlying41 Tryz.sizeOf9) rfl (.val (.ldI (v := S x) (.of rfl) hS (hq.add _) Tryz.isAgg9 hqx) rfl (.run 1 rfl trivial (.nil ?_)))))))))
  refine WC.cond rfl (fun hb16 => ?_) (fun hb16 => ?_)
  ·
   have hc16 := hb16; try simp only [Gk.cs0] at hc16
   refine .seq (.region (.run 2 rfl trivial (.nil (.ret (ret1 Tryz.results141 rfl ?_)))))
   have e : p = x := by simpa using hb16
   subst e
   exact ⟨_, rfl, by rw [idxT_hit hno hx], hS⟩
  have hc16 := hb16; try simp only [Gk.cs0] at hc16
  refine .skip (.region (.run 2 rfl ⟨⟨by omega, by omega⟩, trivial⟩ (.nil ?_)))
  refine ⟨i + 1, ⟨rfl, rfl, rfl, rfl, trivial⟩, ⟨by omega, fun j y hj hy => ?_, hS⟩, by omega⟩
  rcases Nat.lt_or_ge j i with h1 | h1
  ·exact hno j y h1 hy
  ·have e : j = i := by omega
   subst e
   rw [hx] at hy; cases hy
   simpa using hb16
 have hc9 := hb9; try simp only [Gk.cs0] at hc9
 refine .exit (.seq (.region (.run 1 rfl trivial (.nil (.ret (ret1 Tryz.results141 rfl ?_))))))
 exact ⟨_, rfl, by rw [idxT_none (fun j x hx => hno j x (by have := (List.getElem?_eq_some_iff.1 hx).1; omega) hx)], hS⟩
theorem Prefix_any (k : Int) (B w : World) (I : Im) (hP : PreAt I) (As : List Assn) (hS : Sat B w I As) :
  Calls Tryz.prog 137 [I64 k].toArray w (Ret fun v w' => v = S (preI k) ∧ Sat B w' I As) := by
 refine calls Tryz.func137 rfl Tryz.ntmps137 rfl (.seq (.region (.run 1 rfl trivial (.nil (.seq (.seq (.region (.run 3 rfl trivial (.gval rfl rfl (fun hg1 => (.move (.of rfl))) rfl (.gval rfl rfl (fun hg1 => (.gtr (.gd hg1 rfl) (.of rfl))) rfl (.val (.por (.of rfl) (.of rfl) (.of rfl)) rfl (.nil ?_))))))))))))
 refine WC.cond rfl (fun hb8 => ?_) (fun hb8 => ?_)
 ·
  have hc8 := hb8; try simp only [Gk.cs0] at hc8
  refine .seq (.region (.run 1 rfl trivial (.nil (.ret (ret1 Tryz.results137 rfl ?_)))))
  exact ⟨_, rfl, by rw [preI, if_pos (by omega)], hS⟩
 have hc8 := hb8; try simp only [Gk.cs0] at hc8
 refine .skip (.seq ?_)
 have hk7 : k.toNat < 7 := by omega
 refine .region (.run 1 rfl trivial (.val (.arrAddrI (i := k) (.of rfl) (.of rfl) (by omega) (by omega) Tryz.underlying208 Tryz.sizeOf9) rfl (.val (.ldI (v := S (pre k.toNat)) (.of rfl) hS (At.add hP _) Tryz.isAgg9 (pre_get hk7)) rfl (.run 1 rfl trivial (.nil (.ret (ret1 Tryz.results137 rfl ?_)))))))
 exact ⟨_, rfl, by rw [preI, if_neg (by omega)], hS⟩
abbrev HEXD : List UInt8 := [48, 49, 50, 51, 52, 53, 54, 55, 56, 57, 97, 98, 99, 100, 101, 102]
theorem hx_idx (c : UInt8) : (match hx c with | some d => Go.Lib.indexByte HEXD c = (d : Int) | none => Go.Lib.indexByte HEXD c = -1) := by
 have := all_bytes (p := fun c => match hx c with | some d => Go.Lib.indexByte HEXD c == (d : Int) | none => Go.Lib.indexByte HEXD c == -1) (by decide +kernel) c
 cases h : hx c with
 | some d => rw [h] at this; simpa using this
 | none => rw [h] at this; simpa using this
theorem hxS_take {s : List UInt8} {i : Nat} {n d : Nat} (hi : i < s.length) (hn : hxS 0 (s.take i) = some n) (hd : hx (at_ s (i : Int)) = some d) : hxS 0 (s.take (i + 1)) = some (16 * n + d) := by
 have : s[i]? = some (at_ s (i : Int)) := at_some hi
 rw [List.take_add_one, this, Option.toList_some, hxS_app, hn, Option.bind_some]
 simp only [hxS, hd]
theorem hxS_bad : ∀ (s : List UInt8) (i n : Nat), i < s.length → hx (at_ s (i : Int)) = none → hxS n s = none
 | [], i, _, h, _ => by simp at h
 | c :: r, 0, n, _, h => by
  rw [hxS, show hx c = none from h]
 | c :: r, i + 1, n, hi, h => by
  rw [hxS]
  cases hx c with
  | none => rfl
  | some d => exact hxS_bad r i _ (by simpa using hi) (by
    have e : at_ (c :: r) ((i + 1 : Nat) : Int) = at_ r (i : Int) := by simp [at_]
    rw [e] at h; exact h)
theorem or_low {n d : Nat} (hd : d < 16) : (16 * n) ||| d = 16 * n + d := by
 have := Nat.two_pow_add_eq_or_of_lt (i := 4) (b := d) hd n
 simpa using this.symm
theorem draw_any (s : List UInt8) (hs : s.length ≤ 1000000) (B w : World) (I : Im) (As : List Assn) (hS : Sat B w I As) :
  Calls Tryz.prog 147 [S s].toArray w (Ret fun v w' => v = (match drawOf s with | some d => .tuple #[U64 (d : Nat), .bool true] | none => .tuple #[U64 0, .bool false]) ∧ Sat B w' I As) := by
 refine calls Tryz.func147 rfl Tryz.ntmps147 rfl (.seq (.region (.run 2 rfl trivial (.nil (.seq (.seq (.region (.run 3 rfl ⟨Tryz.underlying9, trivial⟩ (.nil ?_)))))))))
 refine WC.cond rfl (fun hb9 => ?_) (fun hb9 => ?_)
 ·
  have hc9 := hb9; try simp only [Gk.cs0] at hc9
  refine .seq (.region (.run 2 rfl trivial (.nil (.ret (ret2 Tryz.results147 rfl rfl ?_)))))
  exact ⟨_, rfl, by rw [drawOf, if_neg (by omega)], hS⟩
 have hc9 := hb9; try simp only [Gk.cs0] at hc9
 refine .skip (.seq (.region (.run 1 rfl trivial (.nil (.seq (.seq (.region (.run 3 rfl ⟨Tryz.underlying9, trivial⟩ (.nil (.block (.loop (σ := Nat × Nat) (fun ⟨i, n⟩ => [(0, S s), (4, U64 (n : Nat)), (11, I64 (s.length : Nat)), (12, I64 (i : Nat))]) (fun ⟨i, n⟩ w => i ≤ s.length ∧ hxS 0 (s.take i) = some n ∧ n < 16 ^ i ∧ Sat B w I As) (fun ⟨i, n⟩ => s.length - i) (0, 0) ⟨rfl, rfl, rfl, rfl, trivial⟩ ⟨Nat.zero_le _, rfl, by decide, hS⟩ ?_)))))))))))
 rintro ⟨i, n⟩ w ⟨hi, hn, hn16, hS⟩
 change WC _ _ _ _ [(0, S s), (4, U64 (n : Nat)), (11, I64 (s.length : Nat)), (12, I64 (i : Nat))] w
 refine .seq (.region (.run 1 rfl trivial (.nil (.seq ?_))))
 refine WC.cond rfl (fun hb13 => ?_) (fun hb13 => ?_)
 ·
  have hc13 := hb13; try simp only [Gk.cs0] at hc13
  refine .skip (.seq (.block (.seq (.region (.run 2 rfl trivial (.nil (.seq (.region (.run 3 rfl ⟨⟨⟨by omega, by omega⟩, Tryz.underlying9⟩, trivial⟩ (.call Tryz.func181 rfl (evs_cons (.of rfl) (evs_cons (.of rfl) evs_nil)) rfl (IndexByte_any HEXD (at_ s (i : Int)) _) ?_))))))))))
  rintro _ _ ⟨rfl, rfl⟩
  refine .run 1 rfl trivial (.nil (.seq (.seq ?_)))
  have hxi := hx_idx (at_ s (i : Int))
  refine .region (.run 2 rfl trivial (.nil ?_))
  refine WC.cond rfl (fun hb20 => ?_) (fun hb20 => ?_)
  ·
   have hc20 := hb20; try simp only [Gk.cs0] at hc20
   refine .seq (.region (.run 2 rfl trivial (.nil (.ret (ret2 Tryz.results147 rfl rfl ?_)))))
   refine ⟨_, rfl, ?_, hS⟩
   have hdn : hx (at_ s (i : Int)) = none := by
    cases hd : hx (at_ s (i : Int)) with
    | none => rfl
    | some d => exfalso; rw [hd] at hxi; simp only at hxi; rw [hxi] at hb20; simp at hb20; omega
   rw [drawOf, if_pos (by omega), hxS_bad s i 0 (by omega) hdn]
  have hc20 := hb20; try simp only [Gk.cs0] at hc20
  refine .skip ?_
  obtain ⟨d, hd⟩ : ∃ d, hx (at_ s (i : Int)) = some d := by
   cases hd : hx (at_ s (i : Int)) with
   | none => exfalso; rw [hd] at hxi; simp only at hxi; rw [hxi] at hb20; simp at hb20
   | some d => exact ⟨d, rfl⟩
  rw [hd] at hxi
  simp only at hxi
  have hd16 := hx_lt hd
  rw [hxi]
  have hn15 : n < 16 ^ 15 := Nat.lt_of_lt_of_le hn16 (Nat.pow_le_pow_right (by decide) (by omega))
  have hn60 : n < 1152921504606846976 := by simpa using hn15
  refine .region (.run 1 rfl trivial (.val (.shl (.of rfl) (.of rfl) (by decide) (by decide)) rfl ?_))
  rw [show IntKind.u64.wrap ((n : Int) * 2 ^ (4 : Int).toNat) = ((16 * n : Nat) : Int) by rw [IntKind.wrap_u64]; simp; omega]
  refine .run 1 rfl trivial ?_
  refine WL.val (.cvi (.of rfl) Tryz.underlying3 Tryz.underlying118 (by rw [IntKind.wrap_u64]; omega)) rfl ?_
  refine .val (.or64 (a := 16 * n) (b := d) (by omega) (by omega) (.of rfl) (.of rfl)) rfl ?_
  rw [or_low hd16]
  refine .run 1 rfl trivial (.nil (.region (.run 2 rfl ⟨⟨by omega, by omega⟩, trivial⟩ (.nil ?_))))
  refine ⟨(i + 1, 16 * n + d), ⟨rfl, rfl, rfl, rfl, trivial⟩, ⟨by (try dsimp only); omega, hxS_take (by omega) hn hd, ?_, hS⟩, by (try dsimp only); omega⟩
  (try dsimp only)
  rw [Nat.pow_succ]; omega
 have hc13 := hb13; try simp only [Gk.cs0] at hc13
 refine .exit (.seq (.region (.run 3 rfl trivial (.nil (.ret (ret2 Tryz.results147 rfl rfl ?_))))))
 refine ⟨_, rfl, ?_, hS⟩
 rw [List.take_of_length_le (by omega)] at hn
 rw [drawOf, if_pos (by omega), hn]
end Go.Proofs.YtadhiihnnkcagaaGreatDoor
namespace Go.Proofs.YtadhiihnnkcagaaGreatDoor
open Gk Ul Pc Tk Tr
set_option linter.unusedVariables false
set_option linter.unusedSimpArgs false
theorem Parse_any (s : List UInt8) (hs : s.length ≤ 1000000) (B w : World) (I : Im) (hK : Known I) (hP : PreAt I) (As : List Assn) (hS : Sat B w I As) :
  Calls Tryz.prog 111 [S s].toArray w (Ret fun v w' => v = (match parseT s with | some (k, d) => .tuple #[I64 (k : Nat), U64 (d : Nat), .bool true] | none => .tuple #[I64 0, U64 0, .bool false]) ∧ Sat B w' I As) := by
 refine calls Tryz.func111 rfl Tryz.ntmps111 rfl (.seq (.region (.run 3 rfl trivial (.nil (.seq (.region (.run 1 rfl trivial (.call Tryz.func146 rfl (evs_cons (.of rfl) (evs_cons (.of rfl) evs_nil)) rfl (CutOne_any s 45 hs B _ I hK _ hS) ?_))))))))
 clear hS
 rintro _ w ⟨rfl, hS⟩
 refine .run 7 rfl trivial (.nil (.seq (.region (.run 1 rfl trivial ?_))))
 refine WL.call Tryz.func147 rfl (evs_cons (.of rfl) evs_nil) rfl (draw_any _ (by have := from_le [45] s; rw [List.length_drop]; omega) B _ I _ hS) ?_
 clear hS
 rintro _ w ⟨rfl, hS⟩
 rcases hdr : drawOf ((from_ [45] s).drop 1) with _ | d
 ·
  refine .val (.move (.of rfl)) rfl (.run 4 rfl trivial (.nil (.seq (.region (.val (Ex.slcArr (m := 7) (s := 1) (.of rfl) Tryz.underlying208 Tryz.sizeOf9) rfl (.run 1 rfl trivial (.call Tryz.func141 rfl (evs_cons (.of rfl) (evs_cons (.of rfl) evs_nil)) rfl (IndexT_any (some (ad 0 0)) 7 PREV (by decide) (upto [45] s) B _ I ⟨rfl, fun _ => ⟨_, rfl, hP⟩⟩ As hS) ?_)))))))
  clear hS
  rintro _ w ⟨rfl, hS⟩
  refine .run 1 rfl trivial (.nil (.seq (.seq (.region (.run 3 rfl trivial (.gval rfl rfl (fun hg1 => (.move (.of rfl))) rfl (.gval rfl rfl (fun hg1 => (.lss (.gd hg1 rfl) (.of rfl))) rfl (.val (.por (.of rfl) (.of rfl) (.of rfl)) rfl (.nil ?_)))))))))
  refine WC.cond rfl (fun hb30 => ?_) (fun hb30 => ?_)
  ·
   have hc30 := hb30; try simp only [Gk.cs0] at hc30
   refine .seq (.region (.run 3 rfl trivial (.nil (.ret (ret3 Tryz.results111 rfl rfl rfl ?_)))))
   refine ⟨_, rfl, ?_, hS⟩
   have : parseT s = none := by
    unfold parseT
    split
    ·rfl
    ·rw [hdr]; rfl
   rw [this]
  have hc30 := hb30; try simp only [Gk.cs0] at hc30
  refine .skip (.seq (.region (.run 5 rfl trivial (.nil (.ret (ret3 Tryz.results111 rfl rfl rfl ?_))))))
  exfalso; simp at hb30
 refine .val (.move (.of rfl)) rfl (.run 4 rfl trivial (.nil (.seq (.region (.val (Ex.slcArr (m := 7) (s := 1) (.of rfl) Tryz.underlying208 Tryz.sizeOf9) rfl (.run 1 rfl trivial (.call Tryz.func141 rfl (evs_cons (.of rfl) (evs_cons (.of rfl) evs_nil)) rfl (IndexT_any (some (ad 0 0)) 7 PREV (by decide) (upto [45] s) B _ I ⟨rfl, fun _ => ⟨_, rfl, hP⟩⟩ As hS) ?_)))))))
 clear hS
 rintro _ w ⟨rfl, hS⟩
 refine .run 1 rfl trivial (.nil (.seq (.seq (.region (.run 3 rfl trivial (.gval rfl rfl (fun hg1 => (.move (.of rfl))) rfl (.gval rfl rfl (fun hg1 => (.lss (.gd hg1 rfl) (.of rfl))) rfl (.val (.por (.of rfl) (.of rfl) (.of rfl)) rfl (.nil ?_)))))))))
 refine WC.cond rfl (fun hb30 => ?_) (fun hb30 => ?_)
 ·
  have hc30 := hb30; try simp only [Gk.cs0] at hc30
  refine .seq (.region (.run 3 rfl trivial (.nil (.ret (ret3 Tryz.results111 rfl rfl rfl ?_)))))
  refine ⟨_, rfl, ?_, hS⟩
  have h0 := (kind_idx (upto [45] s)).2 (by simp at hb30; omega)
  rw [parseT, if_pos h0]
 have hc30 := hb30; try simp only [Gk.cs0] at hc30
 refine .skip (.seq (.region (.run 5 rfl trivial (.nil (.ret (ret3 Tryz.results111 rfl rfl rfl ?_))))))
 refine ⟨_, rfl, ?_, hS⟩
 obtain ⟨h0, h1⟩ := (kind_idx (upto [45] s)).1 (by simp at hb30; omega)
 rw [parseT, if_neg h0, hdr, h1]
 rfl
theorem Is_any (s : List UInt8) (kind : Int) (hs : s.length ≤ 1000000) (B w : World) (I : Im) (hK : Known I) (hP : PreAt I) (As : List Assn) (hS : Sat B w I As) :
  Calls Tryz.prog 144 [S s, I64 kind].toArray w (Ret fun v w' => v = .bool (isT s kind) ∧ Sat B w' I As) := by
 refine calls Tryz.func144 rfl Tryz.ntmps144 rfl (.seq (.region (.run 1 rfl trivial (.nil (.seq (.region (.run 1 rfl trivial (.call Tryz.func111 rfl (evs_cons (.of rfl) evs_nil) rfl (Parse_any s hs B _ I hK hP _ hS) ?_))))))))
 clear hS
 rintro _ w ⟨rfl, hS⟩
 rcases hps : parseT s with _ | ⟨k, d⟩
 ·
  refine .val (.move (.of rfl)) rfl (.run 6 rfl trivial (.nil (.seq (.region (.run 2 rfl trivial (.gval rfl rfl (fun hg1 => (.move (.of rfl))) rfl (.gval rfl rfl (fun hg1 => (.move (.of rfl))) rfl (.gval rfl rfl (fun hg1 => (.eql (.gd hg1 rfl) (.gd hg1 rfl))) rfl (.val (.pand (.of rfl) (.of rfl) (.of rfl)) rfl (.run 1 rfl trivial (.nil (.ret (ret1 Tryz.results144 rfl ?_)))))))))))))
  exact ⟨_, rfl, by rw [isT, hps]; rfl, hS⟩
 refine .val (.move (.of rfl)) rfl (.run 6 rfl trivial (.nil (.seq (.region (.run 2 rfl trivial (.gval rfl rfl (fun hg1 => (.move (.of rfl))) rfl (.gval rfl rfl (fun hg1 => (.move (.of rfl))) rfl (.gval rfl rfl (fun hg1 => (.eql (.gd hg1 rfl) (.gd hg1 rfl))) rfl (.val (.pand (.of rfl) (.of rfl) (.of rfl)) rfl (.run 1 rfl trivial (.nil (.ret (ret1 Tryz.results144 rfl ?_)))))))))))))
 exact ⟨_, rfl, by rw [isT, hps]; rfl, hS⟩
theorem Comes_any (kind of : Int) (w : World) :
  Calls Tryz.prog 179 [I64 kind, I64 of].toArray w (Ret fun v w' => v = .bool (comes kind of) ∧ w = w') := by
 refine calls Tryz.func179 rfl Tryz.ntmps179 rfl (.seq (.region (.run 1 rfl trivial (.nil (.seq (.seq (.region (.run 1 rfl trivial (.nil (.block (.seq (.block (.seq (.block (.block (.seq (.block (.seq (.block (.block (.seq (.seq (.seq (.region (.run 2 rfl trivial (.nil ?_))))))))))))))))))))))))))
 refine WC.cond rfl (fun hb6 => ?_) (fun hb6 => ?_)
 ·
  have hc6 := hb6; try simp only [Gk.cs0] at hc6
  refine .exit (.seq (.seq (.region (.run 3 rfl trivial (.nil (.ret (ret1 Tryz.results179 rfl ?_)))))))
  refine ⟨_, rfl, congrArg Value.bool ?_, rfl⟩
  simp only [beq_iff_eq, beq_eq_false_iff_ne] at *
  first | (subst_vars; simp [comes]; done) | (simp [comes, *]; done)
 have hc6 := hb6; try simp only [Gk.cs0] at hc6
 refine .skip (.seq (.seq (.region (.run 2 rfl trivial (.nil ?_)))))
 refine WC.cond rfl (fun hb8 => ?_) (fun hb8 => ?_)
 ·
  have hc8 := hb8; try simp only [Gk.cs0] at hc8
  refine .exit (.seq (.seq (.region (.run 3 rfl trivial (.nil (.ret (ret1 Tryz.results179 rfl ?_)))))))
  refine ⟨_, rfl, congrArg Value.bool ?_, rfl⟩
  simp only [beq_iff_eq, beq_eq_false_iff_ne] at *
  first | (subst_vars; simp [comes]; done) | (simp [comes, *]; done)
 have hc8 := hb8; try simp only [Gk.cs0] at hc8
 refine .skip (.seq (.seq (.region (.run 2 rfl trivial (.nil ?_)))))
 refine WC.cond rfl (fun hb10 => ?_) (fun hb10 => ?_)
 ·
  have hc10 := hb10; try simp only [Gk.cs0] at hc10
  refine .exit (.seq (.seq (.region (.run 3 rfl trivial (.nil (.ret (ret1 Tryz.results179 rfl ?_)))))))
  refine ⟨_, rfl, congrArg Value.bool ?_, rfl⟩
  simp only [beq_iff_eq, beq_eq_false_iff_ne] at *
  first | (subst_vars; simp [comes]; done) | (simp [comes, *]; done)
 have hc10 := hb10; try simp only [Gk.cs0] at hc10
 refine .skip (.seq (.seq (.region (.run 2 rfl trivial (.nil ?_)))))
 refine WC.cond rfl (fun hb12 => ?_) (fun hb12 => ?_)
 ·
  have hc12 := hb12; try simp only [Gk.cs0] at hc12
  refine .exit (.seq (.seq (.region (.run 3 rfl trivial (.nil (.ret (ret1 Tryz.results179 rfl ?_)))))))
  refine ⟨_, rfl, congrArg Value.bool ?_, rfl⟩
  simp only [beq_iff_eq, beq_eq_false_iff_ne] at *
  first | (subst_vars; simp [comes]; done) | (simp [comes, *]; done)
 have hc12 := hb12; try simp only [Gk.cs0] at hc12
 refine .skip (.seq (.seq (.region (.run 2 rfl trivial (.nil ?_)))))
 refine WC.cond rfl (fun hb14 => ?_) (fun hb14 => ?_)
 ·
  have hc14 := hb14; try simp only [Gk.cs0] at hc14
  refine .exit (.seq (.seq (.region (.run 3 rfl trivial (.nil (.ret (ret1 Tryz.results179 rfl ?_)))))))
  refine ⟨_, rfl, congrArg Value.bool ?_, rfl⟩
  simp only [beq_iff_eq, beq_eq_false_iff_ne] at *
  first | (subst_vars; simp [comes]; done) | (simp [comes, *]; done)
 have hc14 := hb14; try simp only [Gk.cs0] at hc14
 refine .skip (.seq (.region (.run 2 rfl trivial (.nil ?_))))
 refine WC.cond rfl (fun hb16 => ?_) (fun hb16 => ?_)
 ·
  have hc16 := hb16; try simp only [Gk.cs0] at hc16
  refine .exit (.seq (.seq (.region (.run 3 rfl trivial (.gval rfl rfl (fun hg1 => (.move (.of rfl))) rfl (.gval rfl rfl (fun hg1 => (.eql (.gd hg1 rfl) (.of rfl))) rfl (.val (.por (.of rfl) (.of rfl) (.of rfl)) rfl (.run 1 rfl trivial (.nil (.ret (ret1 Tryz.results179 rfl ?_)))))))))))
  refine ⟨_, rfl, congrArg Value.bool ?_, rfl⟩
  simp only [beq_iff_eq, beq_eq_false_iff_ne] at *
  first | (subst_vars; simp [comes]; done) | (simp [comes, *]; done)
 have hc16 := hb16; try simp only [Gk.cs0] at hc16
 refine .skip (.exit (.seq (.region (.run 1 rfl trivial (.nil (.ret (ret1 Tryz.results179 rfl ?_)))))))
 refine ⟨_, rfl, congrArg Value.bool ?_, rfl⟩
 simp only [beq_iff_eq, beq_eq_false_iff_ne] at *
 first | (subst_vars; simp [comes]; done) | (simp [comes, *]; done)
theorem parent_any (kind : Int) (s : List UInt8) (hs : s.length ≤ 1000000) (B w : World) (I : Im) (hK : Known I) (hP : PreAt I) (As : List Assn) (hS : Sat B w I As) :
  Calls Tryz.prog 145 [I64 kind, S s].toArray w (Ret fun v w' => v = .bool (parentOk kind s) ∧ Sat B w' I As) := by
 refine calls Tryz.func145 rfl Tryz.ntmps145 rfl (.seq (.region (.run 1 rfl trivial (.nil (.seq (.seq (.region (.run 2 rfl trivial (.nil ?_)))))))))
 refine WC.cond rfl (fun hb9 => ?_) (fun hb9 => ?_)
 ·
  have hc9 := hb9; try simp only [Gk.cs0] at hc9
  refine .seq (.region (.run 1 rfl trivial (.call Tryz.func179 rfl (evs_cons (.of rfl) (evs_cons (.of rfl) evs_nil)) rfl (Comes_any kind 0 _) ?_)))
  rintro _ _ ⟨rfl, rfl⟩
  refine .run 1 rfl trivial (.nil (.ret (ret1 Tryz.results145 rfl ?_)))
  exact ⟨_, rfl, by rw [parentOk, if_pos (by simpa using hb9)], hS⟩
 have hc9 := hb9; try simp only [Gk.cs0] at hc9
 refine .skip (.seq (.region (.run 1 rfl trivial (.call Tryz.func111 rfl (evs_cons (.of rfl) evs_nil) rfl (Parse_any s hs B _ I hK hP _ hS) ?_))))
 clear hS
 rintro _ w ⟨rfl, hS⟩
 rcases hps : parseT s with _ | ⟨k, d⟩
 ·
  refine .val (.move (.of rfl)) rfl (.run 6 rfl trivial (.nil (.seq (.region (.run 2 rfl trivial (.gval rfl rfl (fun hg1 => (.move (.of rfl))) rfl (.gval rfl rfl (fun hg1 => (.move (.of rfl))) rfl (.gcall (T := fun w => Sat B w I As) rfl rfl rfl Tryz.func179 rfl (fun hg1 => (evs_cons (.gd hg1 rfl) (evs_cons (.gd hg1 rfl) evs_nil))) rfl (fun hg1 => quiet_of (Comes_any _ _ w) hS) hS ?_))))))))
  clear hS; rintro w hS
  refine .val (.pand (.of rfl) (.of rfl) (.of rfl)) rfl (.run 1 rfl trivial (.nil (.ret (ret1 Tryz.results145 rfl ?_))))
  exact ⟨_, rfl, by rw [parentOk, if_neg (by simpa using hb9), hps]; rfl, hS⟩
 refine .val (.move (.of rfl)) rfl (.run 6 rfl trivial (.nil (.seq (.region (.run 2 rfl trivial (.gval rfl rfl (fun hg1 => (.move (.of rfl))) rfl (.gval rfl rfl (fun hg1 => (.move (.of rfl))) rfl (.gcall (T := fun w => Sat B w I As) rfl rfl rfl Tryz.func179 rfl (fun hg1 => (evs_cons (.gd hg1 rfl) (evs_cons (.gd hg1 rfl) evs_nil))) rfl (fun hg1 => quiet_of (Comes_any _ _ w) hS) hS ?_))))))))
 clear hS; rintro w hS
 refine .val (.pand (.of rfl) (.of rfl) (.of rfl)) rfl (.run 1 rfl trivial (.nil (.ret (ret1 Tryz.results145 rfl ?_))))
 exact ⟨_, rfl, by rw [parentOk, if_neg (by simpa using hb9), hps]; rfl, hS⟩
def recCells (r : Rec) : List Value := [I64 r.kind, S r.name, S r.parent, S r.user, S r.service, S r.url, I64 r.made, I64 r.used, I64 r.uses, .bool r.fresh]
theorem Right_any (r : Rec) (hn : r.name.length ≤ 1000000) (hp : r.parent.length ≤ 1000000) (B w : World) (I : Im) (hK : Known I) (hP : PreAt I) (As : List Assn) (hS : Sat B w I As) :
  Calls Tryz.prog 106 [.agg (recCells r).toArray].toArray w (Ret fun v w' => v = .bool (rightR r) ∧ Sat B w' I As) := by
 refine calls Tryz.func106 rfl Tryz.ntmps106 rfl (.seq (.region (.boxA (cs := [_, _, _, _, _, _, _, _, _, _]) hS (.of rfl) rfl ?_)))
 clear hS; intro b1 w hS
 refine .run 1 rfl trivial (.nil (.seq (.region ?_)))
 first | refine WL.val (.fieldAddr 3 (.of rfl) Tryz.underlying45 rfl rfl Tryz.sizeOf9 rfl) rfl ?_ | refine WL.val (.fieldAddrI 3 (.of rfl) Tryz.underlying45 rfl rfl Tryz.sizeOf9 rfl) rfl ?_
 refine .val (.ld (.of rfl) hS (k := 0) rfl Tryz.isAgg9 rfl) rfl (.run 3 rfl ⟨Tryz.underlying9, trivial⟩ ?_)
 refine WL.gval rfl rfl (fun hg1 => (by first | exact .fieldAddr 4 (.of rfl) Tryz.underlying45 rfl rfl Tryz.sizeOf9 rfl | exact .fieldAddrI 4 (.of rfl) Tryz.underlying45 rfl rfl Tryz.sizeOf9 rfl)) rfl ?_
 refine .gval rfl rfl (fun hg1 => (.ld (.gd hg1 rfl) hS (k := 0) rfl Tryz.isAgg9 rfl)) rfl (.gval rfl rfl (fun hg1 => (.len (.gd hg1 rfl) Tryz.underlying9)) rfl (.gval rfl rfl (fun hg1 => (.leq (.gd hg1 rfl) (.of rfl))) rfl (.val (.pand (.of rfl) (.of rfl) (.of rfl)) rfl (.run 1 rfl trivial ?_))))
 refine WL.gval rfl rfl (fun hg1 => (by first | exact .fieldAddr 5 (.of rfl) Tryz.underlying45 rfl rfl Tryz.sizeOf9 rfl | exact .fieldAddrI 5 (.of rfl) Tryz.underlying45 rfl rfl Tryz.sizeOf9 rfl)) rfl ?_
 refine .gval rfl rfl (fun hg1 => (.ld (.gd hg1 rfl) hS (k := 0) rfl Tryz.isAgg9 rfl)) rfl (.gval rfl rfl (fun hg1 => (.len (.gd hg1 rfl) Tryz.underlying9)) rfl (.gval rfl rfl (fun hg1 => (.leq (.gd hg1 rfl) (.of rfl))) rfl (.val (.pand (.of rfl) (.of rfl) (.of rfl)) rfl (.run 1 rfl trivial (.nil (.seq (.region ?_)))))))
 first | refine WL.val (.fieldAddr 6 (.of rfl) Tryz.underlying45 rfl rfl Tryz.sizeOf3 rfl) rfl ?_ | refine WL.val (.fieldAddrI 6 (.of rfl) Tryz.underlying45 rfl rfl Tryz.sizeOf3 rfl) rfl ?_
 refine .val (.ld (.of rfl) hS (k := 0) rfl Tryz.isAgg3 rfl) rfl (.run 2 rfl trivial ?_)
 refine WL.gval rfl rfl (fun hg1 => (by first | exact .fieldAddr 7 (.of rfl) Tryz.underlying45 rfl rfl Tryz.sizeOf3 rfl | exact .fieldAddrI 7 (.of rfl) Tryz.underlying45 rfl rfl Tryz.sizeOf3 rfl)) rfl ?_
 refine .gval rfl rfl (fun hg1 => (.ld (.gd hg1 rfl) hS (k := 0) rfl Tryz.isAgg3 rfl)) rfl ?_
 refine WL.gval rfl rfl (fun hg1 => (by first | exact .fieldAddr 6 (.of rfl) Tryz.underlying45 rfl rfl Tryz.sizeOf3 rfl | exact .fieldAddrI 6 (.of rfl) Tryz.underlying45 rfl rfl Tryz.sizeOf3 rfl)) rfl ?_
 refine .gval rfl rfl (fun hg1 => (.ld (.gd hg1 rfl) hS (k := 0) rfl Tryz.isAgg3 rfl)) rfl (.gval rfl rfl (fun hg1 => (.geq (.gd hg1 rfl) (.gd hg1 rfl))) rfl (.val (.pand (.of rfl) (.of rfl) (.of rfl)) rfl (.run 1 rfl trivial ?_)))
 refine WL.gval rfl rfl (fun hg1 => (by first | exact .fieldAddr 7 (.of rfl) Tryz.underlying45 rfl rfl Tryz.sizeOf3 rfl | exact .fieldAddrI 7 (.of rfl) Tryz.underlying45 rfl rfl Tryz.sizeOf3 rfl)) rfl ?_
 refine .gval rfl rfl (fun hg1 => (.ld (.gd hg1 rfl) hS (k := 0) rfl Tryz.isAgg3 rfl)) rfl (.gval rfl rfl (fun hg1 => (.leq (.gd hg1 rfl) (.of rfl))) rfl (.val (.pand (.of rfl) (.of rfl) (.of rfl)) rfl (.run 1 rfl trivial ?_)))
 refine WL.gval rfl rfl (fun hg1 => (by first | exact .fieldAddr 8 (.of rfl) Tryz.underlying45 rfl rfl Tryz.sizeOf3 rfl | exact .fieldAddrI 8 (.of rfl) Tryz.underlying45 rfl rfl Tryz.sizeOf3 rfl)) rfl ?_
 refine .gval rfl rfl (fun hg1 => (.ld (.gd hg1 rfl) hS (k := 0) rfl Tryz.isAgg3 rfl)) rfl (.gval rfl rfl (fun hg1 => (.geq (.gd hg1 rfl) (.of rfl))) rfl (.val (.pand (.of rfl) (.of rfl) (.of rfl)) rfl (.run 1 rfl trivial ?_)))
 refine WL.gval rfl rfl (fun hg1 => (by first | exact .fieldAddr 8 (.of rfl) Tryz.underlying45 rfl rfl Tryz.sizeOf3 rfl | exact .fieldAddrI 8 (.of rfl) Tryz.underlying45 rfl rfl Tryz.sizeOf3 rfl)) rfl ?_
 refine .gval rfl rfl (fun hg1 => (.ld (.gd hg1 rfl) hS (k := 0) rfl Tryz.isAgg3 rfl)) rfl (.gval rfl rfl (fun hg1 => (.leq (.gd hg1 rfl) (.of rfl))) rfl (.val (.pand (.of rfl) (.of rfl) (.of rfl)) rfl (.run 1 rfl trivial (.nil (.seq (.region (.run 2 rfl trivial (.gval rfl rfl (fun hg1 => (.move (.of rfl))) rfl (.val (.pand (.of rfl) (.of rfl) (.of rfl)) rfl (.run 1 rfl trivial ?_))))))))))
 refine WL.gval rfl rfl (fun hg1 => (by first | exact .fieldAddr 1 (.of rfl) Tryz.underlying45 rfl rfl Tryz.sizeOf9 rfl | exact .fieldAddrI 1 (.of rfl) Tryz.underlying45 rfl rfl Tryz.sizeOf9 rfl)) rfl ?_
 refine .gval rfl rfl (fun hg1 => (.ld (.gd hg1 rfl) hS (k := 0) rfl Tryz.isAgg9 rfl)) rfl ?_
 refine WL.gval rfl rfl (fun hg1 => (by first | exact .fieldAddr 0 (.of rfl) Tryz.underlying45 rfl rfl Tryz.sizeOf3 rfl | exact .fieldAddrI 0 (.of rfl) Tryz.underlying45 rfl rfl Tryz.sizeOf3 rfl)) rfl ?_
 refine .gval rfl rfl (fun hg1 => (.ld (.gd hg1 rfl) hS (k := 0) rfl Tryz.isAgg3 rfl)) rfl (.gcall (T := fun w => Sat B w I (blk b1 [I64 r.kind, S r.name, S r.parent, S r.user, S r.service, S r.url, I64 r.made, I64 r.used, I64 r.uses, .bool r.fresh] 45 :: As)) rfl rfl rfl Tryz.func144 rfl (fun hg1 => (evs_cons (.gd hg1 rfl) (evs_cons (.gd hg1 rfl) evs_nil))) rfl (fun hg1 => Is_any r.name r.kind hn B _ I hK hP _ hS) hS ?_)
 clear hS; rintro w hS
 refine .val (.pand (.of rfl) (.of rfl) (.of rfl)) rfl (.run 1 rfl trivial ?_)
 refine WL.gval rfl rfl (fun hg1 => (by first | exact .fieldAddr 0 (.of rfl) Tryz.underlying45 rfl rfl Tryz.sizeOf3 rfl | exact .fieldAddrI 0 (.of rfl) Tryz.underlying45 rfl rfl Tryz.sizeOf3 rfl)) rfl ?_
 refine .gval rfl rfl (fun hg1 => (.ld (.gd hg1 rfl) hS (k := 0) rfl Tryz.isAgg3 rfl)) rfl ?_
 refine WL.gval rfl rfl (fun hg1 => (by first | exact .fieldAddr 2 (.of rfl) Tryz.underlying45 rfl rfl Tryz.sizeOf9 rfl | exact .fieldAddrI 2 (.of rfl) Tryz.underlying45 rfl rfl Tryz.sizeOf9 rfl)) rfl ?_
 refine .gval rfl rfl (fun hg1 => (.ld (.gd hg1 rfl) hS (k := 0) rfl Tryz.isAgg9 rfl)) rfl (.gcall (T := fun w => Sat B w I (blk b1 [I64 r.kind, S r.name, S r.parent, S r.user, S r.service, S r.url, I64 r.made, I64 r.used, I64 r.uses, .bool r.fresh] 45 :: As)) rfl rfl rfl Tryz.func145 rfl (fun hg1 => (evs_cons (.gd hg1 rfl) (evs_cons (.gd hg1 rfl) evs_nil))) rfl (fun hg1 => parent_any r.kind r.parent hp B _ I hK hP _ hS) hS ?_)
 clear hS; rintro w hS
 refine .val (.pand (.of rfl) (.of rfl) (.of rfl)) rfl (.run 1 rfl trivial (.nil (.ret (ret1 Tryz.results106 rfl ?_))))
 exact ⟨_, rfl, rfl, hS.drop (k := 0) rfl⟩
end Go.Proofs.YtadhiihnnkcagaaGreatDoor
namespace Gk
set_option linter.unusedVariables false
set_option linter.unusedSimpArgs false
open Go Go.RowKit Go.WideShapes Go.ChangeShapes
def im0 (W : World) : Im := fun b => W.heap[b]?
theorem sat0 (W : World) : Sat W W (im0 W) [] := ⟨[], rfl, rfl, rfl, rfl, fun _ _ h => h, fun _ _ h => by simp at h, List.nodup_nil, fun _ _ h => by simp at h⟩
theorem Sat.below {W w : World} {I : Im} {As : List Assn} (hS : Sat W w I As) (hl : Le (im0 W) I) : Below W.heap.size W w := by
 obtain ⟨h, _, g⟩ := hS
 have hb : ∀ k, k < W.heap.size → w.heap[k]? = W.heap[k]? := fun k hk => by
  rw [Array.getElem?_eq_getElem hk]
  exact g.imm k _ (hl k _ (Array.getElem?_eq_getElem hk))
 refine ⟨g.os, g.tape, g.output, ?_, hb⟩
 rcases Nat.eq_zero_or_pos W.heap.size with h0 | h0
 ·omega
 ·have h1 := hb (W.heap.size - 1) (by omega)
  rw [Array.getElem?_eq_getElem (show W.heap.size - 1 < W.heap.size by omega)] at h1
  have := (Array.getElem?_eq_some_iff.1 h1).1
  omega
theorem post_law2 {H : Type} {enc : TypeId × Value → H} {P : Program} {f : Func} {s : ChangeSpec} {apart fresh handsOn : Bool} {W W' : World} {args : Array Value} {v : Value} {ds gs : List (DataW H)} {before pa pv : List MemPlace}
  (hW : DataW.Whole enc P f.params.toList s.vars apart W args.toList ds gs before) (hb : Below W.heap.size W W')
  (hres : ∀ (b : Nat) (sp : Nat → Bool) (hd : Bool), DataW.TrodAll enc P W' b sp hd f.resultTypes.toList (v.resultList f.resultTypes.size) (s.fn H (ds ++ gs)).results [])
  (hargs : DataW.TrodAll enc P W' 0 (fun b => decide (b < W.heap.size)) true f.params.toList args.toList (s.fn H (ds ++ gs)).args pa)
  (hvars : DataW.TrodVars enc P W' (fun b => decide (b < W.heap.size)) s.vars (s.fn H (ds ++ gs)).vars pv) (hps : before = pa ++ pv) :
  s.post enc P f apart fresh handsOn false W args v W' := by
 refine ⟨ds, gs, before, [], pa, pv, hW, hres _ _ _, hargs, hvars, World.keptBut_mono (fun p hp => ⟨hp, ?_⟩) (hb.frame (· ∈ before)), fun h => (by cases h)⟩
 rw [hps, List.mem_append] at hp
 exact Or.inr hp
end Gk
namespace Gk
set_option linter.unusedVariables false
set_option linter.unusedSimpArgs false
open Go Go.RowKit Go.WideShapes Go.ChangeShapes
theorem rowsF_len {c : Nat} : ∀ (L : List (List Value)), (∀ l ∈ L, l.length = c) → L.flatten.length = L.length * c
 | [], _ => by simp
 | a :: L, h => by
  rw [List.flatten_cons, List.length_append, rowsF_len L (fun l hl => h l (by simp [hl])), h a (by simp), List.length_cons, Nat.succ_mul, Nat.add_comm]
theorem rowsF_get {c : Nat} : ∀ (L : List (List Value)), (∀ l ∈ L, l.length = c) → ∀ (i r : Nat), r < c → L.flatten[i * c + r]? = (L[i]?).bind (·[r]?)
 | [], _, i, r, _ => by simp
 | a :: L, h, 0, r, hr => by
  have ha := h a (by simp)
  rw [List.flatten_cons, Nat.zero_mul, Nat.zero_add, List.getElem?_append_left (by omega)]
  rfl
 | a :: L, h, i + 1, r, hr => by
  have ha := h a (by simp)
  rw [List.flatten_cons, Nat.succ_mul, List.getElem?_append_right (by omega), show i * c + c + r - a.length = i * c + r by omega, rowsF_get L (fun l hl => h l (by simp [hl])) i r hr]
  rfl
theorem flat_piece {c : Nat} : ∀ (L : List (List Value)), (∀ l ∈ L, l.length = c) → ∀ (i : Nat) (l : List Value), L[i]? = some l → (L.flatten.drop (i * c)).take c = l
 | [], _, i, l, h => by simp at h
 | a :: L, h, 0, l, hl => by
  have ha := h a (by simp)
  simp at hl
  subst hl
  rw [List.flatten_cons, Nat.zero_mul, List.drop_zero, ← ha, List.take_left]
 | a :: L, h, i + 1, l, hl => by
  have ha := h a (by simp)
  rw [List.flatten_cons, Nat.succ_mul, Nat.add_comm, ← ha, ← List.drop_drop, List.drop_left, ha]
  exact flat_piece L (fun l hl => h l (by simp [hl])) i l (by simpa using hl)
section
variable {H : Type} {enc : TypeId × Value → H} {P : Program} {W : World} {spare : Nat → Bool} {held : Bool}
theorem cells_len {base n : Nat} {a : Addr} {vs : List Value} (h : W.cells? base a n = some vs) : vs.length = n ∧ ∀ i, i < n → W.cell? (a.add i) = vs[i]? := by
 unfold World.cells? at h
 split at h
 ·have hl := Go.Lib.mapM_length h
  rw [List.length_range] at hl
  refine ⟨hl, fun i hi => ?_⟩
  obtain ⟨b, h1, h2⟩ := Go.Lib.mapM_at h i i (List.getElem?_range hi)
  rw [h1, h2]
 ·cases h
theorem at_im0 {a : Addr} {xs : List Value} (hn : 0 < xs.length) (h : ∀ j v, xs[j]? = some v → W.cell? (a.add j) = some v) : At (im0 W) a xs := by
 obtain ⟨ab, ao, sp⟩ := a
 have h0 := h 0 xs[0] (List.getElem?_eq_getElem hn)
 have hs : sp = none := by simpa [Addr.add] using World.cell?_spot h0
 subst hs
 have e : ∀ j, (⟨ab, ao, none⟩ : Addr).add j = ⟨ab, ao + j, none⟩ := add_ad ab ao
 rw [e] at h0
 unfold World.cell? at h0
 split at h0
 ·rename_i arr E fr hb
  refine ⟨rfl, arr, E, fr, hb, fun j v hj => ?_⟩
  have hc2 := h j v hj
  rw [e] at hc2
  unfold World.cell? at hc2
  dsimp only at hb
  rw [hb] at hc2
  simpa using hc2
 ·cases h0
theorem open_rows {t e c fuel : Nat} {cs : List Value} {x : DataW H × List MemPlace} (ht : P.underlying t = some (.slice e)) (hc : P.cellsOf e = c) (hc0 : 0 < c) (h : DataW.trod enc P W 0 spare held fuel t cs = some x) :
  ∃ (a : Option Addr) (cap : Nat) (L : List (List Value)) (n : Nat), cs = [.slice a L.length cap] ∧ L.length ≤ cap ∧ cap ≤ maxLen ∧ (∀ l ∈ L, l.length = c) ∧ RS (im0 W) a c L.length L.flatten ∧ ∀ l ∈ L, ∃ y, DataW.trod enc P W 0 spare held n e l = some y := by
 rcases DataW.trod_slice ht h with ⟨rfl, _⟩ | ⟨a, len, cap, elems, rest, n, _, rfl, _, _, hl, hm, hlen, hel, _, _⟩
 ·exact ⟨none, 0, [], 0, rfl, Nat.le_refl _, Nat.zero_le _, fun _ h => by simp at h, RS.nil _ _, fun _ h => by simp at h⟩
 ·rw [hc] at hel
  have each : ∀ i, i < len → ∃ l, W.cells? 0 (a.add (i * c)) c = some l ∧ ∃ y, DataW.trod enc P W 0 spare held n e l = some y := fun i hi => by
   have h1 := hel i hi
   rw [List.getElem?_eq_getElem (by omega)] at h1
   obtain ⟨l, h2, h3⟩ := Option.bind_eq_some_iff.1 h1
   exact ⟨l, h2, _, h3⟩
  let L := (List.range len).map fun i => (W.cells? 0 (a.add (i * c)) c).getD []
  have hL : ∀ i, i < len → ∃ l, L[i]? = some l ∧ W.cells? 0 (a.add (i * c)) c = some l ∧ ∃ y, DataW.trod enc P W 0 spare held n e l = some y := fun i hi => by
   obtain ⟨l, h1, h2⟩ := each i hi
   refine ⟨l, ?_, h1, h2⟩
   simp only [L, List.getElem?_map, List.getElem?_range hi, Option.map_some, h1, Option.getD_some]
  have hLl : L.length = len := by simp [L]
  have hmem : ∀ l ∈ L, ∃ i, i < len ∧ L[i]? = some l := fun l hl => by
   obtain ⟨i, hi⟩ := List.mem_iff_getElem?.1 hl
   exact ⟨i, by have := (List.getElem?_eq_some_iff.1 hi).1; omega, hi⟩
  have hlc : ∀ l ∈ L, l.length = c := fun l hl => by
   obtain ⟨i, hi, e1⟩ := hmem l hl
   obtain ⟨l', e2, h2, _⟩ := hL i hi
   rw [e1] at e2; cases e2
   exact (cells_len h2).1
  refine ⟨some a, cap, L, n, by rw [hLl], by rw [hLl]; exact hl, hm, hlc, ⟨rowsF_len L hlc, fun hn => ⟨a, rfl, at_im0 ?_ fun j v hj => ?_⟩⟩, fun l hl => ?_⟩
  ·rw [rowsF_len L hlc]; exact Nat.mul_pos hn hc0
  ·have hjl : j < L.length * c := by rw [← rowsF_len L hlc]; exact (List.getElem?_eq_some_iff.1 hj).1
   have hq : j / c < len := by rw [← hLl]; exact Nat.div_lt_of_lt_mul (by rw [Nat.mul_comm]; exact hjl)
   have hr : j % c < c := Nat.mod_lt _ hc0
   have ej : j = j / c * c + j % c := by rw [Nat.mul_comm]; exact (Nat.div_add_mod j c).symm
   obtain ⟨l, e1, e2, _⟩ := hL (j / c) hq
   rw [ej, rowsF_get L hlc _ _ hr, e1] at hj
   have := (cells_len e2).2 (j % c) hr
   rw [ej, show a.add (j / c * c + j % c) = (a.add (j / c * c)).add (j % c) by rw [Addr.add_add]]
   rw [this]; exact hj
  ·obtain ⟨i, hi, e1⟩ := hmem l hl
   obtain ⟨l', e2, _, y⟩ := hL i hi
   rw [e1] at e2; cases e2
   exact y
theorem open_texts {t e fuel : Nat} {cs : List Value} {x : DataW H × List MemPlace} (ht : P.underlying t = some (.slice e)) (he : P.underlying e = some .string) (hc : P.cellsOf e = 1) (h : DataW.trod enc P W 0 spare held fuel t cs = some x) :
  ∃ (a : Option Addr) (cap : Nat) (l : List (List UInt8)), cs = [.slice a l.length cap] ∧ l.length ≤ cap ∧ cap ≤ maxLen ∧ RS (im0 W) a 1 l.length (l.map S) ∧ ∀ s ∈ l, s.length ≤ maxLen := by
 obtain ⟨a, cap, L, n, rfl, h1, h2, h3, h4, h5⟩ := open_rows ht hc (by decide) h
 have each : ∀ l ∈ L, ∃ s : ByteArray, l = [.string s] ∧ s.size ≤ maxLen := fun l hl => by
  obtain ⟨y, hy⟩ := h5 l hl
  obtain ⟨s, rfl, _, hs⟩ := DataW.trod_string he hy
  exact ⟨s, rfl, hs⟩
 have key : ∀ L : List (List Value), (∀ l ∈ L, ∃ s : ByteArray, l = [.string s] ∧ s.size ≤ maxLen) → ∃ ts : List (List UInt8), ts.length = L.length ∧ L.flatten = ts.map S ∧ ∀ s ∈ ts, s.length ≤ maxLen := by
  intro L
  induction L with
  | nil => intro _; exact ⟨[], rfl, rfl, fun _ h => by simp at h⟩
  | cons l L ih =>
   intro h
   obtain ⟨s, rfl, hs⟩ := h l (by simp)
   obtain ⟨ts, e1, e2, e3⟩ := ih (fun l hl => h l (by simp [hl]))
   refine ⟨s.data.toList :: ts, by simp [e1], ?_, fun u hu => ?_⟩
   ·rw [List.flatten_cons, e2]; rfl
   ·rcases List.mem_cons.1 hu with e | e
    ·subst e; exact hs
    ·exact e3 u e
 obtain ⟨ts, e1, e2, e3⟩ := key L each
 rw [e2, ← e1] at h4
 exact ⟨a, cap, ts, by rw [e1], by rw [e1]; exact h1, h2, h4, e3⟩
end
end Gk
namespace Go.Proofs.YtadhiihnnkcagaaGreatDoor
open Gk Go.RowKit Go.WideShapes Go.ChangeShapes
set_option linter.unusedVariables false
set_option linter.unusedSimpArgs false
theorem trod_float_ {H : Type} {enc : TypeId × Value → H} {P : Program} {w : World} {base : Nat} {spare : Nat → Bool} {held : Bool} {fuel : Nat} {t : TypeId} {cs : List Value} {x : DataW H × List MemPlace} (ht : P.underlying t = some (.float .f64)) (h : DataW.trod enc P w base spare held fuel t cs = some x) : ∃ b, cs = [.float .f64 b] ∧ (Lit.float .f64 b).wf = true := by
 cases fuel with
 | zero => simp [DataW.trod] at h
 | succ n =>
  unfold DataW.trod at h
  rw [ht] at h
  split at h <;> simp_all
structure Sv where
 id : Int
 ord : Nat
 urls : List UInt8
 login : Bool
 proxy : Bool
 back : Bool
 calls : List UInt8
 rel : List (List UInt8)
def svCells (s : Sv) (a : Option Addr) (c : Nat) : List Value := [I64 s.id, F64 s.ord, S s.urls, .bool s.login, .bool s.proxy, .bool s.back, S s.calls, .slice a s.rel.length c]
def SvAt (I : Im) (s : Sv) (l : List Value) : Prop := ∃ a c, l = svCells s a c ∧ s.rel.length ≤ c ∧ RS I a 1 s.rel.length (s.rel.map S)
theorem SvAt.mono {I J : Im} {s : Sv} {l : List Value} (h : SvAt I s l) (hl : Le I J) : SvAt J s l := by
 obtain ⟨a, c, e, h1, h2⟩ := h
 exact ⟨a, c, e, h1, h2.mono hl⟩
structure Sv.fits (s : Sv) : Prop where
 id : -9223372036854775808 ≤ s.id ∧ s.id ≤ 9223372036854775807
 ord : s.ord < 18446744073709551616
 urls : s.urls.length ≤ maxLen
 calls : s.calls.length ≤ maxLen
 rel : s.rel.length ≤ maxLen ∧ ∀ x ∈ s.rel, x.length ≤ maxLen
set_option maxRecDepth 100000 in
theorem open_svc {H : Type} {enc : TypeId × Value → H} {W : World} {spare : Nat → Bool} {held : Bool} {fuel : Nat} {cs : List Value} {x : DataW H × List MemPlace} (h : DataW.trod enc Tryz.prog W 0 spare held fuel 101 cs = some x) : ∃ s : Sv, SvAt (im0 W) s cs ∧ s.fits := by
 obtain ⟨xs, n, _, _, hcl, hxl, hf⟩ := DataW.trod_struct Tryz.underlying101 h
 rw [show Tryz.prog.cellsOf 101 = 8 from by kernel_rfl] at hcl
 obtain ⟨y0, hy0⟩ : ∃ y, DataW.trod enc Tryz.prog W 0 spare held n 3 ((cs.drop 0).take (Tryz.prog.cellsOf 3)) = some y := ⟨_, (hf 0 _ rfl).trans (List.getElem?_eq_getElem (by rw [hxl]; decide))⟩
 rw [show Tryz.prog.cellsOf 3 = 1 from by kernel_rfl] at hy0
 obtain ⟨y1, hy1⟩ : ∃ y, DataW.trod enc Tryz.prog W 0 spare held n 32 ((cs.drop 1).take (Tryz.prog.cellsOf 32)) = some y := ⟨_, (hf 1 _ rfl).trans (List.getElem?_eq_getElem (by rw [hxl]; decide))⟩
 rw [show Tryz.prog.cellsOf 32 = 1 from by kernel_rfl] at hy1
 obtain ⟨y2, hy2⟩ : ∃ y, DataW.trod enc Tryz.prog W 0 spare held n 9 ((cs.drop 2).take (Tryz.prog.cellsOf 9)) = some y := ⟨_, (hf 2 _ rfl).trans (List.getElem?_eq_getElem (by rw [hxl]; decide))⟩
 rw [show Tryz.prog.cellsOf 9 = 1 from by kernel_rfl] at hy2
 obtain ⟨y3, hy3⟩ : ∃ y, DataW.trod enc Tryz.prog W 0 spare held n 4 ((cs.drop 3).take (Tryz.prog.cellsOf 4)) = some y := ⟨_, (hf 3 _ rfl).trans (List.getElem?_eq_getElem (by rw [hxl]; decide))⟩
 rw [show Tryz.prog.cellsOf 4 = 1 from by kernel_rfl] at hy3
 obtain ⟨y4, hy4⟩ : ∃ y, DataW.trod enc Tryz.prog W 0 spare held n 4 ((cs.drop 4).take (Tryz.prog.cellsOf 4)) = some y := ⟨_, (hf 4 _ rfl).trans (List.getElem?_eq_getElem (by rw [hxl]; decide))⟩
 rw [show Tryz.prog.cellsOf 4 = 1 from by kernel_rfl] at hy4
 obtain ⟨y5, hy5⟩ : ∃ y, DataW.trod enc Tryz.prog W 0 spare held n 4 ((cs.drop 5).take (Tryz.prog.cellsOf 4)) = some y := ⟨_, (hf 5 _ rfl).trans (List.getElem?_eq_getElem (by rw [hxl]; decide))⟩
 rw [show Tryz.prog.cellsOf 4 = 1 from by kernel_rfl] at hy5
 obtain ⟨y6, hy6⟩ : ∃ y, DataW.trod enc Tryz.prog W 0 spare held n 9 ((cs.drop 6).take (Tryz.prog.cellsOf 9)) = some y := ⟨_, (hf 6 _ rfl).trans (List.getElem?_eq_getElem (by rw [hxl]; decide))⟩
 rw [show Tryz.prog.cellsOf 9 = 1 from by kernel_rfl] at hy6
 obtain ⟨y7, hy7⟩ : ∃ y, DataW.trod enc Tryz.prog W 0 spare held n 41 ((cs.drop 7).take (Tryz.prog.cellsOf 41)) = some y := ⟨_, (hf 7 _ rfl).trans (List.getElem?_eq_getElem (by rw [hxl]; decide))⟩
 rw [show Tryz.prog.cellsOf 41 = 1 from by kernel_rfl] at hy7
 obtain ⟨v0, v1, v2, v3, v4, v5, v6, v7, rfl⟩ : ∃ v0 v1 v2 v3 v4 v5 v6 v7, cs = [v0, v1, v2, v3, v4, v5, v6, v7] := by
  match cs, hcl with
  | [a, b, c, d, e, f, g, h], _ => exact ⟨a, b, c, d, e, f, g, h, rfl⟩
 simp only [List.drop_succ_cons, List.drop_zero, List.take_succ_cons, List.take_zero] at hy0 hy1 hy2 hy3 hy4 hy5 hy6 hy7
 obtain ⟨z0, e0, _, w0⟩ := DataW.trod_int Tryz.underlying3 hy0
 obtain ⟨z1, e1, w1⟩ := trod_float_ Tryz.underlying32 hy1
 obtain ⟨z2, e2, _, w2⟩ := DataW.trod_string Tryz.underlying9 hy2
 obtain ⟨z3, e3, _⟩ := DataW.trod_bool Tryz.underlying4 hy3
 obtain ⟨z4, e4, _⟩ := DataW.trod_bool Tryz.underlying4 hy4
 obtain ⟨z5, e5, _⟩ := DataW.trod_bool Tryz.underlying4 hy5
 obtain ⟨z6, e6, _, w6⟩ := DataW.trod_string Tryz.underlying9 hy6
 obtain ⟨a, c, l, e7, h1, h2, h3, h4⟩ := open_texts Tryz.underlying41 Tryz.underlying9 (by kernel_rfl) hy7
 simp only [List.cons.injEq, and_true] at e0 e1 e2 e3 e4 e5 e6 e7
 subst e0 e1 e2 e3 e4 e5 e6 e7
 refine ⟨⟨z0, z1, z2.data.toList, z3, z4, z5, z6.data.toList, l⟩, ⟨a, c, rfl, h1, h3⟩, ⟨?_, of_decide_eq_true (show decide (z1 < 18446744073709551616) = true from w1), w2, w6, by (try dsimp only); omega, h4⟩⟩
 have h0 := w0
 simp only [Lit.wf, Bool.and_eq_true, decide_eq_true_eq] at h0
 exact ⟨h0.1, h0.2⟩
theorem open_svcs {H : Type} {enc : TypeId × Value → H} {W : World} {spare : Nat → Bool} {held : Bool} {fuel : Nat} {cs : List Value} {x : DataW H × List MemPlace} (h : DataW.trod enc Tryz.prog W 0 spare held fuel 27 cs = some x) :
  ∃ (a : Option Addr) (cap : Nat) (L : List (List Value)) (l : List Sv), cs = [.slice a L.length cap] ∧ L.length ≤ cap ∧ cap ≤ maxLen ∧ L.length = l.length ∧ (∀ c ∈ L, c.length = 8) ∧ RS (im0 W) a 8 L.length L.flatten ∧ ∀ (i : Nat) (s : Sv), l[i]? = some s → s.fits ∧ ∃ c, L[i]? = some c ∧ SvAt (im0 W) s c := by
 obtain ⟨a, cap, L, n, rfl, h1, h2, h3, h4, h5⟩ := open_rows (c := 8) Tryz.underlying27 (by kernel_rfl) (by decide) h
 have key : ∀ L : List (List Value), (∀ l ∈ L, ∃ y, DataW.trod enc Tryz.prog W 0 spare held n 101 l = some y) → ∃ l : List Sv, L.length = l.length ∧ ∀ (i : Nat) (s : Sv), l[i]? = some s → s.fits ∧ ∃ c, L[i]? = some c ∧ SvAt (im0 W) s c := by
  intro L
  induction L with
  | nil => intro _; exact ⟨[], rfl, fun i s h => by simp at h⟩
  | cons c L ih =>
   intro h
   obtain ⟨y, hy⟩ := h c (by simp)
   obtain ⟨s, hs, hf⟩ := open_svc hy
   obtain ⟨l, e1, e2⟩ := ih (fun c hc => h c (by simp [hc]))
   refine ⟨s :: l, by simp [e1], fun i u hu => ?_⟩
   cases i with
   | zero => simp at hu; subst hu; exact ⟨hf, c, rfl, hs⟩
   | succ i => simpa using e2 i u (by simpa using hu)
 obtain ⟨l, e1, e2⟩ := key L h5
 exact ⟨a, cap, L, l, rfl, h1, h2, e1, h3, h4, e2⟩
def SvsAt (I : Im) (a : Option Addr) (l : List Sv) : Prop := ∀ (i : Nat) (s : Sv), l[i]? = some s → ∃ p ra rc, a = some p ∧ At I (p.add (i * 8)) (svCells s ra rc) ∧ s.rel.length ≤ rc ∧ RS I ra 1 s.rel.length (s.rel.map S)
theorem SvsAt.mono {I J : Im} {a : Option Addr} {l : List Sv} (h : SvsAt I a l) (hl : Le I J) : SvsAt J a l := fun i s hs => by
 obtain ⟨p, ra, rc, e, h1, h2, h3⟩ := h i s hs
 exact ⟨p, ra, rc, e, h1.mono hl, h2, h3.mono hl⟩
theorem at_take {I : Im} {p : Addr} {vs : List Value} (h : At I p vs) (n : Nat) : At I p (vs.take n) := by
 obtain ⟨h1, arr, E, fr, h2, h3⟩ := h
 refine ⟨h1, arr, E, fr, h2, fun j v hj => ?_⟩
 rw [List.getElem?_take] at hj
 split at hj
 ·exact h3 j v hj
 ·cases hj
theorem svs_of {I : Im} {a : Option Addr} {L : List (List Value)} {l : List Sv} (h8 : ∀ c ∈ L, c.length = 8) (hR : RS I a 8 L.length L.flatten) (h : ∀ (i : Nat) (s : Sv), l[i]? = some s → ∃ c, L[i]? = some c ∧ SvAt I s c) : SvsAt I a l := fun i s hs => by
 obtain ⟨c, hc, ra, rc, rfl, h1, h2⟩ := h i s hs
 obtain ⟨p, rfl, hp⟩ := hR.2 (by have := (List.getElem?_eq_some_iff.1 hc).1; omega)
 have h3 := at_take (hp.add (i * 8)) 8
 rw [flat_piece L h8 i _ hc] at h3
 exact ⟨p, ra, rc, rfl, h3, h1, h2⟩
end Go.Proofs.YtadhiihnnkcagaaGreatDoor
namespace Go.Proofs.YtadhiihnnkcagaaGreatDoor
open Gk Pc Ul Pat
set_option linter.unusedVariables false
set_option linter.unusedSimpArgs false
theorem bld134_155 : Bld Tryz.prog 134 [(0, 1), (1, 1), (2, 1), (3, 1), (4, 1), (5, 1)] [S [], S [], .int .i64 0, S [], S [], .bool false] := bld_of Tryz.underlying134 Tryz.zeroValue134 (fun w => by simp [go_sem])
theorem dec_len (n : Nat) (h : n ≤ 65535) : (Go.Lib.decDigits n).length ≤ 5 := by
 rw [Go.Lib.decDigits_length]
 have step : ∀ k m, m < 10 ^ (k + 1) → Go.Lib.nDigits m ≤ k + 1 := by
  intro k
  induction k with
  | zero => intro m hm; rw [Go.Lib.nDigits_small (by simpa using hm)]; exact Nat.le_refl _
  | succ k ih =>
   intro m hm
   by_cases h10 : m < 10
   ·rw [Go.Lib.nDigits_small h10]; omega
   ·rw [Go.Lib.nDigits_big h10]
    have := ih (m / 10) (by rw [Nat.pow_succ] at hm; omega)
    omega
 exact step 4 n (by omega)
theorem uOrigin_any (u : U) (hu : SmallU u) (B w : World) (I : Im) (hK : Known I) (As : List Assn) (hS : Sat B w I As) :
  Calls Tryz.prog 155 [.agg [S u.sch, S u.host, I64 (u.port : Nat), S u.path, S u.query, .bool u.ask].toArray].toArray w (Ret fun v w' => v = S (origin u) ∧ Sat B w' I As) := by
 refine calls Tryz.func155 rfl Tryz.ntmps155 rfl (.seq (.region (.boxA (cs := [_, _, _, _, _, _]) hS (.of rfl) rfl ?_)))
 clear hS; intro b1 w hS
 refine .run 1 rfl trivial (.nil (.seq ?_))
 obtain ⟨hs1, hs2, hp, hs4, hs5⟩ := hu
 have hd5 := dec_len u.port hp
 refine .region (.val (.fieldAddr 0 (.of rfl) Tryz.underlying134 rfl rfl Tryz.sizeOf9 rfl) rfl (.val (.ld (.of rfl) hS (k := 0) rfl Tryz.isAgg9 rfl) rfl ?_))
 refine WL.run 1 rfl ⟨by (try simp only [List.length_append, List.length_cons, List.length_nil]); omega, trivial⟩ ?_
 refine .val (.fieldAddr 1 (.of rfl) Tryz.underlying134 rfl rfl Tryz.sizeOf9 rfl) rfl (.val (.ld (.of rfl) hS (k := 0) rfl Tryz.isAgg9 rfl) rfl ?_)
 refine WL.run 2 rfl ⟨by (try simp only [List.length_append, List.length_cons, List.length_nil]); omega, trivial⟩ ?_
 refine .nil (.seq (.seq (.region (.val (.fieldAddr 2 (.of rfl) Tryz.underlying134 rfl rfl Tryz.sizeOf3 rfl) rfl (.val (.ld (.of rfl) hS (k := 0) rfl Tryz.isAgg3 rfl) rfl (.run 1 rfl trivial (.nil ?_)))))))
 refine WC.cond rfl (fun hb12 => ?_) (fun hb12 => ?_)
 ·
  have hc12 := hb12; try simp only [Gk.cs0] at hc12
  refine .region (.run 1 rfl trivial (.val (.fieldAddr 2 (.of rfl) Tryz.underlying134 rfl rfl Tryz.sizeOf3 rfl) rfl (.val (.ld (.of rfl) hS (k := 0) rfl Tryz.isAgg3 rfl) rfl (.call Tryz.func189 rfl (evs_cons (.of rfl) evs_nil) rfl (Itoa_any u.port hp B _ I hK _ hS) ?_))))
  clear hS
  rintro _ w ⟨rfl, hS⟩
  refine WL.run 3 rfl ⟨by (try simp only [List.length_append, List.length_cons, List.length_nil]); omega, by (try simp only [List.length_append, List.length_cons, List.length_nil]); omega, trivial⟩ ?_
  refine .nil (.seq (.region (.run 2 rfl trivial (.nil (.ret (ret1 Tryz.results155 rfl ?_))))))
  refine ⟨_, rfl, ?_, hS.drop (k := 0) rfl⟩
  rw [origin, if_neg (by omega)]
  simp [List.append_assoc]
 have hc12 := hb12; try simp only [Gk.cs0] at hc12
 refine .skip (.seq (.region (.run 2 rfl trivial (.nil (.ret (ret1 Tryz.results155 rfl ?_))))))
 refine ⟨_, rfl, ?_, hS.drop (k := 0) rfl⟩
 rw [origin, if_pos (by omega)]
 simp [List.append_assoc]
theorem origin_len (u : U) (hu : SmallU u) : (origin u).length ≤ 3000000 := by
 obtain ⟨hs1, hs2, hp, hs4, hs5⟩ := hu
 have hd5 := dec_len u.port hp
 unfold origin
 split <;> simp only [List.length_append, List.length_cons, List.length_nil] <;> omega
theorem uString_any (u : U) (hu : SmallU u) (B w : World) (I : Im) (hK : Known I) (As : List Assn) (hS : Sat B w I As) :
  Calls Tryz.prog 113 [.agg [S u.sch, S u.host, I64 (u.port : Nat), S u.path, S u.query, .bool u.ask].toArray].toArray w (Ret fun v w' => v = S (strU u) ∧ Sat B w' I As) := by
 refine calls Tryz.func113 rfl Tryz.ntmps113 rfl (.seq (.region (.boxA (cs := [_, _, _, _, _, _]) hS (.of rfl) rfl ?_)))
 clear hS; intro b1 w hS
 refine .run 1 rfl trivial (.nil (.seq ?_))
 have hol := origin_len u hu
 obtain ⟨hs1, hs2, hp, hs4, hs5⟩ := id hu
 refine .drawn (fun w => ∃ R, Sat B w I (blk b1 [S u.sch, S u.host, I64 (u.port : Nat), S u.path, S u.query, .bool u.ask] 134 :: R)) (fun j => !([].contains j)) (by kernel_rfl) ?_
 replace hS := hS.drew; generalize w.drew = w at hS ⊢
 have hH : ∃ R, Sat B w I (blk b1 [S u.sch, S u.host, I64 (u.port : Nat), S u.path, S u.query, .bool u.ask] 134 :: R) := ⟨_, (hS.pick 0 rfl)⟩
 refine .take (i := 0) rfl (by kernel_rfl) (by kernel_rfl) (by kernel_rfl) (by kernel_rfl) hH (fun w ⟨R, hS⟩ => (.ldsW (cs := [_, _, _, _, _, _]) (.of rfl) hS (k := 0) rfl Tryz.isAgg134 Tryz.sizeOf134 rfl)) rfl (.takeP (i := 2) rfl (by kernel_rfl) (by kernel_rfl) (by kernel_rfl) (fun w => (.fieldAddr 3 (.of rfl) Tryz.underlying134 rfl rfl Tryz.sizeOf9 rfl)) rfl (.take (i := 3) rfl (by kernel_rfl) (by kernel_rfl) (by kernel_rfl) (by kernel_rfl) hH (fun w ⟨R, hS⟩ => (.ld (.of rfl) hS (k := 0) rfl Tryz.isAgg9 rfl)) rfl ?_))
 refine WD.branch [1] (by kernel_rfl) rfl (WO.cons rfl ?_ (WO.nil))
 refine .call Tryz.func155 rfl (evs_cons (.of rfl) evs_nil) rfl (uOrigin_any u hu B _ I hK _ hS) ?_
 clear hS
 rintro _ w ⟨rfl, hS⟩
 refine .nil ?_
 clear hH
 have hH : ∃ R, Sat B w I (blk b1 [S u.sch, S u.host, I64 (u.port : Nat), S u.path, S u.query, .bool u.ask] 134 :: R) := ⟨_, (hS.pick 0 rfl)⟩
 refine And.intro (by intro _ _; exact hH) ?_
 refine WD.takeP (i := 4) rfl (by kernel_rfl) (by kernel_rfl) (by kernel_rfl) (fun w => (.cat (.of rfl) (.of rfl) (by (try simp only [List.length_append, List.length_cons, List.length_nil]); omega))) rfl ?_
 refine .takeP (i := 5) rfl (by kernel_rfl) (by kernel_rfl) (by kernel_rfl) (fun w => (.assign (.of rfl))) rfl (.done (by kernel_rfl) (.seq (.seq (.region (.val (.fieldAddr 5 (.of rfl) Tryz.underlying134 rfl rfl Tryz.sizeOf4 rfl) rfl (.val (.ld (.of rfl) hS (k := 0) rfl Tryz.isAgg4 rfl) rfl (.nil ?_)))))))
 refine WC.cond rfl (fun hb10 => ?_) (fun hb10 => ?_)
 ·
  have hc10 := hb10; try simp only [Gk.cs0] at hc10
  refine .region (.run 1 rfl trivial (.val (.fieldAddr 4 (.of rfl) Tryz.underlying134 rfl rfl Tryz.sizeOf9 rfl) rfl (.val (.ld (.of rfl) hS (k := 0) rfl Tryz.isAgg9 rfl) rfl ?_)))
  refine WL.run 3 rfl ⟨by (try simp only [List.length_append, List.length_cons, List.length_nil]); omega, by (try simp only [List.length_append, List.length_cons, List.length_nil]); omega, trivial⟩ ?_
  refine .nil (.seq (.region (.run 2 rfl trivial (.nil (.ret (ret1 Tryz.results113 rfl ?_))))))
  refine ⟨_, rfl, ?_, hS.drop (k := 0) rfl⟩
  rw [strU, if_pos hc10]
  simp [List.append_assoc]
 have hc10 := hb10; try simp only [Gk.cs0] at hc10
 refine .skip (.seq (.region (.run 2 rfl trivial (.nil (.ret (ret1 Tryz.results113 rfl ?_))))))
 refine ⟨_, rfl, ?_, hS.drop (k := 0) rfl⟩
 rw [strU, if_neg (by rw [hc10]; decide), List.append_nil]
theorem cut_small (s sep : List UInt8) : (Go.Lib.cut s sep).1.length ≤ s.length ∧ (Go.Lib.cut s sep).2.1.length ≤ s.length := by
 unfold Go.Lib.cut
 split
 ·simp only [List.length_take, List.length_drop]; omega
 ·simp
theorem CutSign_e (s : List UInt8) (hs : s.length ≤ 1000000) (B w : World) (I : Im) (hK : Known I) (As : List Assn) (hS : Sat B w I As) : Calls Tryz.prog 146 [S s, S SIGN].toArray w (Ret fun v w' => ∃ sc rs ok, v = .tuple #[S sc, S rs, .bool ok] ∧ schemeOf s = (if ok = true ∧ (low sc = http ∨ low sc = https) then some (low sc, rs) else none) ∧ sc.length ≤ s.length ∧ rs.length ≤ s.length ∧ Sat B w' I As) :=
 (CutSign_any s hs B w I hK As hS).mono fun e w' he => by
  obtain ⟨v, rfl, rfl, h⟩ := he
  obtain ⟨h1, h2⟩ := cut_small s SIGN
  exact ⟨_, rfl, _, _, _, rfl, scheme_cut s, h1, h2, h⟩
theorem partU_len {s t : List UInt8} (h : partU s = some t) : t.length ≤ s.length := by
 unfold partU at h
 split at h
 ·exact norm_len s t h
 ·cases h
theorem normal_e (s : List UInt8) (hl : s.length ≤ 1000000) (B w : World) (I : Im) (hK : Known I) (As : List Assn) (hS : Sat B w I As) : Calls Tryz.prog 153 [S s].toArray w (Ret fun v w' => ∃ n1 e1, v = .tuple #[S n1, I64 e1] ∧ (match partU s with | none => n1 = [] ∧ e1 = 15 | some t => n1 = t ∧ e1 = 0) ∧ n1.length ≤ s.length ∧ Sat B w' I As) :=
 (normal_any s hl B w I hK.dig As hS).mono fun e w' he => by
  obtain ⟨v, rfl, rfl, h⟩ := he
  cases hp : partU s with
  | none => exact ⟨_, rfl, _, _, rfl, ⟨rfl, rfl⟩, Nat.zero_le _, h⟩
  | some t => exact ⟨_, rfl, _, _, rfl, ⟨rfl, rfl⟩, partU_len hp, h⟩
theorem port_e (s sch : List UInt8) (hl : s.length ≤ 1000000) (w : World) : Calls Tryz.prog 152 [S s, S sch].toArray w (Ret fun v w' => (∃ pn : Nat, v = .tuple #[I64 (pn : Nat), .bool (portOk s)] ∧ pn ≤ 65535 ∧ (portOk s = true → pn = portV s sch)) ∧ w = w') :=
 (port_any s sch hl w).mono fun e w' he => by
  obtain ⟨v, rfl, rfl, h⟩ := he
  refine ⟨_, rfl, ?_, h⟩
  cases hp : portOk s with
  | false => exact ⟨0, rfl, by decide, fun e => by cases e⟩
  | true =>
   refine ⟨portV s sch, rfl, ?_, fun _ => rfl⟩
   unfold portV
   split
   ·decide
   ·unfold portOk at hp
    simp only [Bool.and_eq_true, decide_eq_true_eq] at hp
    exact hp.2
theorem upto_len (a s : List UInt8) : (upto a s).length ≤ s.length := by
 have := congrArg List.length (upto_from a s)
 rw [List.length_append] at this; omega
theorem from_len (a s : List UInt8) : (from_ a s).length ≤ s.length := by
 have := congrArg List.length (upto_from a s)
 rw [List.length_append] at this; omega
theorem asc4 : Asc [47, 63, 35, 58] := fun j b h => by
 match j, h with
 | 0, h => cases h; decide
 | 1, h => cases h; decide
 | 2, h => cases h; decide
 | 3, h => cases h; decide
 | _ + 4, h => simp at h
theorem asc3 : Asc [47, 63, 35] := fun j b h => by
 match j, h with
 | 0, h => cases h; decide
 | 1, h => cases h; decide
 | 2, h => cases h; decide
 | _ + 3, h => simp at h
theorem pre_take (r : List UInt8) : hasPre r [58] = true ↔ r.take 1 = [58] := by
 cases r with
 | nil => simp [hasPre]
 | cons a b => simp [hasPre]; intro _; omega
set_option maxHeartbeats 800000 in
theorem uParse_any (s : List UInt8) (hl : s.length ≤ 1000000) (B w : World) (I : Im) (hK : Known I) (As : List Assn) (hS : Sat B w I As) :
  Calls Tryz.prog 112 [S s].toArray w (Ret fun v w' => v = .tuple #[.agg (uc (pU s).1).toArray, I64 ((pU s).2 : Nat)] ∧ Sat B w' I As) := by
 refine calls Tryz.func112 rfl Tryz.ntmps112 rfl (.seq (.region (.allocA (cs := [_, _, _, _, _, _]) hS Tryz.zeroValue134 rfl ?_)))
 clear hS; intro b2 w hS
 refine .run 1 rfl trivial (.nil (.seq (.seq (.region (.run 3 rfl ⟨Tryz.underlying9, trivial⟩ (.nil ?_))))))
 refine WC.cond rfl (fun hb15 => ?_) (fun hb15 => ?_)
 ·
  have hc15 := hb15; try simp only [Gk.cs0] at hc15
  refine .seq (.region (.val (.build (cs := [_, _, _, _, _, _]) parts_nil bld134_155 rfl) rfl (.stA hS (k := 0) rfl (.of rfl) (.of rfl) rfl Tryz.sizeOf134 rfl (by simp) ?_)))
  clear hS; intro w hS; try dsimp only [List.set] at hS
  try simp only [List.take_zero, List.nil_append, List.append_nil, List.drop_succ_cons, List.drop_zero, List.drop_nil, Nat.zero_add] at hS
  refine .run 1 rfl trivial (.nil (.ret (ret2c (b := _) (cs := [_, _, _, _, _, _]) Tryz.results112 hS (k := 0) rfl Tryz.isAgg134 Tryz.sizeOf134 rfl rfl rfl ?_)))
  exact ⟨_, rfl, by rw [pU, if_pos (by omega)]; rfl, (hS.drop (k := 0) rfl)⟩
 have hc15 := hb15; try simp only [Gk.cs0] at hc15
 refine .skip (.seq (.region (.run 1 rfl trivial (.call Tryz.func146 rfl (evs_cons (.of rfl) (evs_cons (.of rfl) evs_nil)) rfl (CutSign_e s (by omega) B _ I hK _ hS) ?_))))
 clear hS
 rintro _ w ⟨sc, rs, ok, rfl, hsc, hscl, hrsl, hS⟩
 refine .run 7 rfl trivial (.nil (.seq (.region (.run 1 rfl trivial (.call Tryz.func148 rfl (evs_cons (.of rfl) evs_nil) rfl (lower_any sc (by omega) B _ I _ hS) ?_)))))
 clear hS
 rintro _ w ⟨rfl, hS⟩
 refine .run 1 rfl trivial (.nil (.seq (.seq (.region (.run 3 rfl trivial (.gval rfl rfl (fun hg1 => (.move (.of rfl))) rfl (.gval rfl rfl (fun hg1 => (.nes (.gd hg1 rfl) (.of rfl))) rfl (.gval rfl rfl (fun hg1 => (.move (.gd hg1 rfl))) rfl (.gval2 rfl rfl rfl (fun hg1 hg2 => (.move (.of rfl))) rfl (.gval2 rfl rfl rfl (fun hg1 hg2 => (.nes (.gd2 hg1 hg2 rfl) (.of rfl))) rfl (.gval rfl rfl (fun hg1 => (.pand (.gd hg1 rfl) (.gd hg1 rfl) (.of rfl))) rfl (.val (.por (.of rfl) (.of rfl) (.of rfl)) rfl (.nil ?_)))))))))))))
 refine WC.cond rfl (fun hb34 => ?_) (fun hb34 => ?_)
 ·
  have hc34 := hb34; try simp only [Gk.cs0] at hc34
  refine .seq (.region (.val (.build (cs := [_, _, _, _, _, _]) parts_nil bld134_155 rfl) rfl (.stA hS (k := 0) rfl (.of rfl) (.of rfl) rfl Tryz.sizeOf134 rfl (by simp) ?_)))
  clear hS; intro w hS; try dsimp only [List.set] at hS
  try simp only [List.take_zero, List.nil_append, List.append_nil, List.drop_succ_cons, List.drop_zero, List.drop_nil, Nat.zero_add] at hS
  refine .run 1 rfl trivial (.nil (.ret (ret2c (b := _) (cs := [_, _, _, _, _, _]) Tryz.results112 hS (k := 0) rfl Tryz.isAgg134 Tryz.sizeOf134 rfl rfl rfl ?_)))
  refine ⟨_, rfl, ?_, (hS.drop (k := 0) rfl)⟩
  rw [pU, if_neg (by omega), hsc, if_neg]
  ·rfl
  ·rintro ⟨h1, h2⟩
   rw [h1] at hb34
   rcases h2 with h | h <;> rw [h] at hb34 <;> simp [http, https] at hb34
 have hc34 := hb34; try simp only [Gk.cs0] at hc34
 refine .skip (.seq ?_)
 have hok : ok = true ∧ (low sc = http ∨ low sc = https) := hc34
 rw [if_pos hok] at hsc
 have hlow := low_len sc
 refine .region (.run 1 rfl trivial (.val (.build (cs := [_, _, _, _, _, _]) (parts_cons (.of rfl) parts_nil) bld134_155 rfl) rfl (.allocA (cs := [_, _, _, _, _, _]) hS Tryz.zeroValue134 rfl ?_)))
 clear hS; intro b7 w hS
 refine .stA hS (k := 0) rfl (.of rfl) (.of rfl) rfl Tryz.sizeOf134 rfl (by simp) ?_
 clear hS; intro w hS; try dsimp only [List.set] at hS
 try simp only [List.take_zero, List.nil_append, List.append_nil, List.drop_succ_cons, List.drop_zero, List.drop_nil, Nat.zero_add] at hS
 refine .nil (.seq (.region (.run 1 rfl trivial (.call Tryz.func149 rfl (evs_cons (.of rfl) (evs_cons (.of rfl) evs_nil)) rfl (cut_any rs [47, 63, 35, 58] (by omega) asc4 (by decide) (by decide) B _ I _ hS) ?_))))
 clear hS
 rintro _ w ⟨rfl, hS⟩
 refine .run 3 rfl trivial (.val (.fieldAddr 1 (.of rfl) Tryz.underlying134 rfl rfl Tryz.sizeOf9 rfl) rfl (.st1 hS (k := 0) rfl (.of rfl) (.of rfl) rfl Tryz.sizeOf9 (by simp) ?_))
 clear hS; intro w hS; try dsimp only [List.set] at hS
 refine .run 1 rfl trivial (.nil (.seq (.seq (.region (.val (.fieldAddr 1 (.of rfl) Tryz.underlying134 rfl rfl Tryz.sizeOf9 rfl) rfl (.val (.ld (.of rfl) hS (k := 0) rfl Tryz.isAgg9 rfl) rfl ?_))))))
 refine WL.call Tryz.func148 rfl (evs_cons (.of rfl) evs_nil) rfl (lower_any _ (by have := upto_len [47, 63, 35, 58] rs; omega) B _ I _ hS) ?_
 clear hS
 rintro _ w ⟨rfl, hS⟩
 refine .val (.fieldAddr 1 (.of rfl) Tryz.underlying134 rfl rfl Tryz.sizeOf9 rfl) rfl (.st1 hS (k := 0) rfl (.of rfl) (.of rfl) rfl Tryz.sizeOf9 (by simp) ?_)
 clear hS; intro w hS; try dsimp only [List.set] at hS
 refine .nil (.seq (.region (.val (.fieldAddr 1 (.of rfl) Tryz.underlying134 rfl rfl Tryz.sizeOf9 rfl) rfl (.val (.ld (.of rfl) hS (k := 0) rfl Tryz.isAgg9 rfl) rfl (.call Tryz.func150 rfl (evs_cons (.of rfl) evs_nil) rfl (host_any _ _) ?_)))))
 rintro _ _ ⟨rfl, rfl⟩
 refine .run 1 rfl trivial (.nil ?_)
 refine WC.cond rfl (fun hb51 => ?_) (fun hb51 => ?_)
 ·
  have hc51 := hb51; try simp only [Gk.cs0] at hc51
  refine .seq (.region (.val (.build (cs := [_, _, _, _, _, _]) parts_nil bld134_155 rfl) rfl (.stA hS (k := 1) rfl (.of rfl) (.of rfl) rfl Tryz.sizeOf134 rfl (by simp) ?_)))
  clear hS; intro w hS; try dsimp only [List.set] at hS
  try simp only [List.take_zero, List.nil_append, List.append_nil, List.drop_succ_cons, List.drop_zero, List.drop_nil, Nat.zero_add] at hS
  refine .run 1 rfl trivial (.nil (.ret (ret2c (b := _) (cs := [_, _, _, _, _, _]) Tryz.results112 hS (k := 1) rfl Tryz.isAgg134 Tryz.sizeOf134 rfl rfl rfl ?_)))
  refine ⟨_, rfl, ?_, ((hS.drop (k := 0) rfl).drop (k := 0) rfl)⟩
  rw [pU, if_neg (by omega), hsc]
  simp only
  rw [hostOf, if_neg (by simpa using hb51)]; rfl
 have hc51 := hb51; try simp only [Gk.cs0] at hc51
 refine .skip ?_
 refine WC.cutS (σ := Nat × List UInt8) (fun ⟨port, r⟩ => [(2, ptr b2 0), (5, S r), (7, ptr b7 0)]) (fun ⟨port, r⟩ w => pU s = tailU (low sc) (low (upto [47, 63, 35, 58] rs)) port r ∧ port ≤ 65535 ∧ r.length ≤ 2000 ∧ Sat B w I (blk b7 [S (low sc), S (low (upto [47, 63, 35, 58] rs)), I64 (port : Nat), S [], S [], .bool false] 134 :: blk b2 [S [], S [], I64 0, S [], S [], .bool false] 134 :: As)) ?_ ?_
 ·
  refine .seq (.region (.run 1 rfl trivial ?_))
  refine WL.call Tryz.func151 rfl (evs_cons (.of rfl) (evs_cons (.of rfl) evs_nil)) rfl (HasPrefix_any _ [58] _ (by have := from_len [47, 63, 35, 58] rs; omega) (by decide)) ?_
  rintro _ _ ⟨rfl, rfl⟩
  refine .nil ?_
  refine WC.cond rfl (fun hb54 => ?_) (fun hb54 => ?_)
  ·
   have hc54 := hb54; try simp only [Gk.cs0] at hc54
   refine .seq ?_
   have htk := (pre_take _).1 hb54
   have hfl := from_len [47, 63, 35, 58] rs
   have hr1 : 1 ≤ (from_ [47, 63, 35, 58] rs).length := by
    have := congrArg List.length htk
    rw [List.length_take, List.length_cons, List.length_nil] at this; omega
   refine .region (.run 1 rfl trivial (.nil (.seq (.region (.run 1 rfl trivial (.val (.subFrom (.of rfl) (.of rfl) (by omega) (by omega) Tryz.underlying9) rfl ?_))))))
   refine WL.call Tryz.func149 rfl (evs_cons (.of rfl) (evs_cons (.of rfl) evs_nil)) rfl (cut_any ((from_ [47, 63, 35, 58] rs).drop 1) [47, 63, 35] (by rw [List.length_drop]; have := from_len [47, 63, 35, 58] rs; omega) asc3 (by decide) (by decide) B _ I _ hS) ?_
   clear hS
   rintro _ w ⟨rfl, hS⟩
   refine .run 5 rfl trivial (.nil (.seq (.region (.run 2 rfl trivial ?_))))
   refine WL.call Tryz.func152 rfl (evs_cons (.of rfl) (evs_cons (.of rfl) evs_nil)) rfl (port_e _ (low sc) (by have := upto_len [47, 63, 35] ((from_ [47, 63, 35, 58] rs).drop 1); have := from_len [47, 63, 35, 58] rs; rw [List.length_drop] at *; omega) _) ?_
   rintro _ _ ⟨⟨pn, rfl, hpn, hpv⟩, rfl⟩
   refine .run 3 rfl trivial (.val (.fieldAddr 2 (.of rfl) Tryz.underlying134 rfl rfl Tryz.sizeOf3 rfl) rfl (.st1 hS (k := 0) rfl (.of rfl) (.of rfl) rfl Tryz.sizeOf3 (by simp) ?_))
   clear hS; intro w hS; try dsimp only [List.set] at hS
   refine .run 1 rfl trivial (.nil (.seq (.region (.run 2 rfl trivial (.nil ?_)))))
   refine WC.cond rfl (fun hb69 => ?_) (fun hb69 => ?_)
   ·
    have hc69 := hb69; try simp only [Gk.cs0] at hc69
    refine .seq (.region (.val (.build (cs := [_, _, _, _, _, _]) parts_nil bld134_155 rfl) rfl (.stA hS (k := 1) rfl (.of rfl) (.of rfl) rfl Tryz.sizeOf134 rfl (by simp) ?_)))
    clear hS; intro w hS; try dsimp only [List.set] at hS
    try simp only [List.take_zero, List.nil_append, List.append_nil, List.drop_succ_cons, List.drop_zero, List.drop_nil, Nat.zero_add] at hS
    refine .run 1 rfl trivial (.nil (.ret (ret2c (b := _) (cs := [_, _, _, _, _, _]) Tryz.results112 hS (k := 1) rfl Tryz.isAgg134 Tryz.sizeOf134 rfl rfl rfl ?_)))
    refine ⟨_, rfl, ?_, ((hS.drop (k := 0) rfl).drop (k := 0) rfl)⟩
    rw [pU, if_neg (by omega), hsc]
    simp only
    rw [hostOf, if_pos (by simpa using hb51), behind, if_pos htk, if_neg (by simpa using hb69)]; rfl
   have hc69 := hb69; try simp only [Gk.cs0] at hc69
   refine .skip ?_
   have hok2 : portOk (upto [47, 63, 35] ((from_ [47, 63, 35, 58] rs).drop 1)) = true := by simpa using hb69
   have hpp := hpv hok2
   refine ⟨(pn, _), ⟨rfl, rfl, rfl, trivial⟩, ?_, hpn, ?_, hS⟩
   ·rw [pU, if_neg (by omega), hsc]
    simp only
    rw [hostOf, if_pos (by simpa using hb51), behind, if_pos htk, if_pos hok2, hpp]
   ·have := from_len [47, 63, 35] ((from_ [47, 63, 35, 58] rs).drop 1)
    rw [List.length_drop] at this
    omega
  have hc54 := hb54; try simp only [Gk.cs0] at hc54
  refine .skip ?_
  refine ⟨(0, _), ⟨rfl, rfl, rfl, trivial⟩, ?_, by decide, ?_, hS⟩
  ·rw [pU, if_neg (by omega), hsc]
   simp only
   rw [hostOf, if_pos (by simpa using hb51), behind, if_neg (fun e => by rw [(pre_take _).2 e] at hb54; cases hb54)]
  ·have := from_len [47, 63, 35, 58] rs
   omega
 rintro ⟨port, r⟩ w ⟨hpu, hport, hrl, hS⟩
 change WC _ _ _ _ [(2, ptr b2 0), (5, S r), (7, ptr b7 0)] w
 refine .seq (.region (.run 1 rfl trivial (.call Tryz.func146 rfl (evs_cons (.of rfl) (evs_cons (.of rfl) evs_nil)) rfl (CutOne_any r 63 (by omega) B _ I hK _ hS) ?_)))
 clear hS
 rintro _ w ⟨rfl, hS⟩
 refine .run 7 rfl trivial (.nil (.seq (.region (.run 1 rfl trivial ?_))))
 refine WL.call Tryz.func153 rfl (evs_cons (.of rfl) evs_nil) rfl (normal_e _ (by have := upto_len [63] r; omega) B _ I hK _ hS) ?_
 clear hS
 rintro _ w ⟨p1, e1, rfl, hp1, hp1l, hS⟩
 refine .run 5 rfl trivial (.nil (.seq (.seq (.region (.run 2 rfl trivial (.nil ?_))))))
 refine WC.cond rfl (fun hb83 => ?_) (fun hb83 => ?_)
 ·
  have hc83 := hb83; try simp only [Gk.cs0] at hc83
  refine .seq (.region (.val (.build (cs := [_, _, _, _, _, _]) parts_nil bld134_155 rfl) rfl (.run 1 rfl trivial (.stA hS (k := 1) rfl (.of rfl) (.of rfl) rfl Tryz.sizeOf134 rfl (by simp) ?_))))
  clear hS; intro w hS; try dsimp only [List.set] at hS
  try simp only [List.take_zero, List.nil_append, List.append_nil, List.drop_succ_cons, List.drop_zero, List.drop_nil, Nat.zero_add] at hS
  refine .run 1 rfl trivial (.nil (.ret (ret2c (b := _) (cs := [_, _, _, _, _, _]) Tryz.results112 hS (k := 1) rfl Tryz.isAgg134 Tryz.sizeOf134 rfl rfl rfl ?_)))
  refine ⟨_, rfl, ?_, ((hS.drop (k := 0) rfl).drop (k := 0) rfl)⟩
  rw [hpu, tailU]
  cases hp : partU (upto [63] r) with
  | none => rw [hp] at hp1; rw [hp1.2]; rfl
  | some t => rw [hp] at hp1; exact absurd hp1.2 hc83
 have hc83 := hb83; try simp only [Gk.cs0] at hc83
 refine .skip (.seq (.region (.run 1 rfl trivial ?_)))
 refine WL.call Tryz.func153 rfl (evs_cons (.of rfl) evs_nil) rfl (normal_e _ (by have := from_len [63] r; rw [List.length_drop]; omega) B _ I hK _ hS) ?_
 clear hS
 rintro _ w ⟨q1, e2, rfl, hq1, hq1l, hS⟩
 refine .run 3 rfl trivial (.val (.fieldAddr 4 (.of rfl) Tryz.underlying134 rfl rfl Tryz.sizeOf9 rfl) rfl (.st1 hS (k := 0) rfl (.of rfl) (.of rfl) rfl Tryz.sizeOf9 (by simp) ?_))
 clear hS; intro w hS; try dsimp only [List.set] at hS
 refine .run 1 rfl trivial (.nil (.seq (.seq (.region (.run 2 rfl trivial (.nil ?_))))))
 refine WC.cond rfl (fun hb93 => ?_) (fun hb93 => ?_)
 ·
  have hc93 := hb93; try simp only [Gk.cs0] at hc93
  refine .seq (.region (.val (.build (cs := [_, _, _, _, _, _]) parts_nil bld134_155 rfl) rfl (.run 1 rfl trivial (.stA hS (k := 1) rfl (.of rfl) (.of rfl) rfl Tryz.sizeOf134 rfl (by simp) ?_))))
  clear hS; intro w hS; try dsimp only [List.set] at hS
  try simp only [List.take_zero, List.nil_append, List.append_nil, List.drop_succ_cons, List.drop_zero, List.drop_nil, Nat.zero_add] at hS
  refine .run 1 rfl trivial (.nil (.ret (ret2c (b := _) (cs := [_, _, _, _, _, _]) Tryz.results112 hS (k := 1) rfl Tryz.isAgg134 Tryz.sizeOf134 rfl rfl rfl ?_)))
  refine ⟨_, rfl, ?_, ((hS.drop (k := 0) rfl).drop (k := 0) rfl)⟩
  rw [hpu, tailU]
  cases hp : partU (upto [63] r) with
  | none => rw [hp] at hp1; have := hp1.2; omega
  | some t =>
   cases hq : partU ((from_ [63] r).drop 1) with
   | none => rw [hq] at hq1; rw [hq1.2]; rfl
   | some t => rw [hq] at hq1; exact absurd hq1.2 hc93
 have hc93 := hb93; try simp only [Gk.cs0] at hc93
 refine .skip (.seq (.region (.run 1 rfl trivial ?_)))
 refine WL.call Tryz.func154 rfl (evs_cons (.of rfl) evs_nil) rfl (Dots_any p1 (by have := upto_len [63] r; omega) B _ I hK _ hS) ?_
 clear hS
 rintro _ w ⟨rfl, hS⟩
 refine .run 1 rfl trivial (.val (.fieldAddr 3 (.of rfl) Tryz.underlying134 rfl rfl Tryz.sizeOf9 rfl) rfl (.st1 hS (k := 0) rfl (.of rfl) (.of rfl) rfl Tryz.sizeOf9 (by simp) ?_))
 clear hS; intro w hS; try dsimp only [List.set] at hS
 refine .val (.fieldAddr 5 (.of rfl) Tryz.underlying134 rfl rfl Tryz.sizeOf4 rfl) rfl (.st1 hS (k := 0) rfl (.of rfl) (.of rfl) rfl Tryz.sizeOf4 (by simp) ?_)
 clear hS; intro w hS; try dsimp only [List.set] at hS
 refine .nil (.seq (.seq (.region (.val (.fieldAddr 3 (.of rfl) Tryz.underlying134 rfl rfl Tryz.sizeOf9 rfl) rfl (.val (.ld (.of rfl) hS (k := 0) rfl Tryz.isAgg9 rfl) rfl (.run 1 rfl trivial (.nil ?_)))))))
 refine WC.cond rfl (fun hb103 => ?_) (fun hb103 => ?_)
 ·
  have hc103 := hb103; try simp only [Gk.cs0] at hc103
  refine .region (.val (.fieldAddr 3 (.of rfl) Tryz.underlying134 rfl rfl Tryz.sizeOf9 rfl) rfl (.st1 hS (k := 0) rfl (.of rfl) (.of rfl) rfl Tryz.sizeOf9 (by simp) ?_))
  clear hS; intro w hS; try dsimp only [List.set] at hS
  refine .nil (.seq (.region (.val (.ldsW (cs := [_, _, _, _, _, _]) (.of rfl) hS (k := 0) rfl Tryz.isAgg134 Tryz.sizeOf134 rfl) rfl (.stA hS (k := 1) rfl (.of rfl) (.of rfl) rfl Tryz.sizeOf134 rfl (by simp) ?_))))
  clear hS; intro w hS; try dsimp only [List.set] at hS
  try simp only [List.take_zero, List.nil_append, List.append_nil, List.drop_succ_cons, List.drop_zero, List.drop_nil, Nat.zero_add] at hS
  refine .run 1 rfl trivial (.nil (.ret (ret2c (b := _) (cs := [_, _, _, _, _, _]) Tryz.results112 hS (k := 1) rfl Tryz.isAgg134 Tryz.sizeOf134 rfl rfl rfl ?_)))
  refine ⟨_, rfl, ?_, ((hS.drop (k := 0) rfl).drop (k := 0) rfl)⟩
  rw [hpu, tailU]
  cases hp : partU (upto [63] r) with
  | none => rw [hp] at hp1; have := hp1.2; omega
  | some t =>
   cases hq : partU ((from_ [63] r).drop 1) with
   | none => rw [hq] at hq1; have := hq1.2; omega
   | some q =>
    rw [hp] at hp1; rw [hq] at hq1
    obtain ⟨rfl, _⟩ := hp1
    obtain ⟨rfl, _⟩ := hq1
    have hif : (if p1 = [] then [47] else dots p1) = [47] := if_pos (by have := dots_nil p1; rw [hb103] at this; simpa using this.symm)
    show _ = Value.tuple #[.agg #[S (low sc), S (low (upto [47, 63, 35, 58] rs)), I64 (port : Nat), S (if p1 = [] then [47] else dots p1), S q1, .bool (!(from_ [63] r).isEmpty)], I64 0]
    rw [hif]
    rfl
 have hc103 := hb103; try simp only [Gk.cs0] at hc103
 refine .skip (.seq (.region (.val (.ldsW (cs := [_, _, _, _, _, _]) (.of rfl) hS (k := 0) rfl Tryz.isAgg134 Tryz.sizeOf134 rfl) rfl (.stA hS (k := 1) rfl (.of rfl) (.of rfl) rfl Tryz.sizeOf134 rfl (by simp) ?_))))
 clear hS; intro w hS; try dsimp only [List.set] at hS
 try simp only [List.take_zero, List.nil_append, List.append_nil, List.drop_succ_cons, List.drop_zero, List.drop_nil, Nat.zero_add] at hS
 refine .run 1 rfl trivial (.nil (.ret (ret2c (b := _) (cs := [_, _, _, _, _, _]) Tryz.results112 hS (k := 1) rfl Tryz.isAgg134 Tryz.sizeOf134 rfl rfl rfl ?_)))
 refine ⟨_, rfl, ?_, ((hS.drop (k := 0) rfl).drop (k := 0) rfl)⟩
 rw [hpu, tailU]
 cases hp : partU (upto [63] r) with
 | none => rw [hp] at hp1; have := hp1.2; omega
 | some t =>
  cases hq : partU ((from_ [63] r).drop 1) with
  | none => rw [hq] at hq1; have := hq1.2; omega
  | some q =>
   rw [hp] at hp1; rw [hq] at hq1
   obtain ⟨rfl, _⟩ := hp1
   obtain ⟨rfl, _⟩ := hq1
   have hif : (if p1 = [] then [47] else dots p1) = dots p1 := if_neg (fun e => by rw [e] at hb103; simp [dots] at hb103)
   show _ = Value.tuple #[.agg #[S (low sc), S (low (upto [47, 63, 35, 58] rs)), I64 (port : Nat), S (if p1 = [] then [47] else dots p1), S q1, .bool (!(from_ [63] r).isEmpty)], I64 0]
   rw [hif]
   rfl
theorem uNormal_any (s : List UInt8) (hl : s.length ≤ 1000000) (B w : World) (I : Im) (hK : Known I) (As : List Assn) (hS : Sat B w I As) :
  Calls Tryz.prog 63 [S s].toArray w (Ret fun v w' => v = .tuple #[S (nU s).1, I64 ((nU s).2 : Nat)] ∧ Sat B w' I As) := by
 refine calls Tryz.func63 rfl Tryz.ntmps63 rfl (.seq (.region (.run 2 rfl trivial (.nil (.seq (.region (.run 1 rfl trivial (.call Tryz.func112 rfl (evs_cons (.of rfl) evs_nil) rfl (uParse_any s hl B _ I hK _ hS) ?_))))))))
 clear hS
 rintro _ w ⟨rfl, hS⟩
 refine .run 3 rfl trivial (.allocA (cs := [_, _, _, _, _, _]) hS Tryz.zeroValue134 rfl ?_)
 clear hS; intro b4 w hS
 refine .stA hS (k := 0) rfl (.of rfl) (.of rfl) rfl Tryz.sizeOf134 rfl (by simp) ?_
 clear hS; intro w hS; try dsimp only [List.set] at hS
 try simp only [List.take_zero, List.nil_append, List.append_nil, List.drop_succ_cons, List.drop_zero, List.drop_nil, Nat.zero_add] at hS
 refine .run 1 rfl trivial (.nil (.seq (.seq (.region (.run 2 rfl trivial (.nil ?_))))))
 refine WC.cond rfl (fun hb12 => ?_) (fun hb12 => ?_)
 ·
  have hc12 := hb12; try simp only [Gk.cs0] at hc12
  refine .seq (.region (.run 3 rfl trivial (.nil (.ret (ret2 Tryz.results63 rfl rfl ?_)))))
  refine ⟨_, rfl, ?_, hS.drop (k := 0) rfl⟩
  rw [nU, if_neg (by omega)]
  rfl
 have hc12 := hb12; try simp only [Gk.cs0] at hc12
 refine .skip (.seq (.region (.val (.ldsW (cs := [_, _, _, _, _, _]) (.of rfl) hS (k := 0) rfl Tryz.isAgg134 Tryz.sizeOf134 rfl) rfl (.call Tryz.func113 rfl (evs_cons (.of rfl) evs_nil) rfl (uString_any (pU s).1 (small_pU s) B _ I hK _ hS) ?_))))
 clear hS
 rintro _ w ⟨rfl, hS⟩
 refine .run 2 rfl trivial (.nil (.ret (ret2 Tryz.results63 rfl rfl ?_)))
 refine ⟨_, rfl, ?_, hS.drop (k := 0) rfl⟩
 rw [nU, if_pos (by omega)]
 rfl
end Go.Proofs.YtadhiihnnkcagaaGreatDoor
namespace Rk
set_option linter.unusedVariables false
set_option linter.unusedSimpArgs false
open Flt
def keyN (b : Nat) : Nat := if 9223372036854775808 ≤ b then 18446744073709551615 - b else b + 9223372036854775808
theorem and_hi {b : Nat} (h : b < 18446744073709551616) : b &&& 9223372036854775808 = if 9223372036854775808 ≤ b then 9223372036854775808 else 0 := by
 apply Nat.eq_of_testBit_eq
 intro i
 have e63 : b.testBit 63 = decide (9223372036854775808 ≤ b) := by
  rw [Nat.testBit_eq_decide_div_mod_eq, show (2 : Nat) ^ 63 = 9223372036854775808 by decide]
  exact decide_eq_decide.2 (by omega)
 rw [Nat.testBit_and, show 9223372036854775808 = 2 ^ 63 by decide, Nat.testBit_two_pow]
 rw [show 9223372036854775808 = 2 ^ 63 by decide] at e63
 by_cases hi : 63 = i
 ·subst hi
  rw [e63]
  by_cases hb : 2 ^ 63 ≤ b
  ·rw [if_pos hb, Nat.testBit_two_pow]; simp [hb]
  ·rw [if_neg hb]; simp [hb]
 ·by_cases hb : 2 ^ 63 ≤ b
  ·rw [if_pos hb, Nat.testBit_two_pow]; simp [hi]
  ·rw [if_neg hb]; simp [hi]
theorem or_hi {b : Nat} (h : b < 9223372036854775808) : b ||| 9223372036854775808 = b + 9223372036854775808 := by
 have e := Nat.two_pow_add_eq_or_of_lt (i := 63) (b := b) (by rw [show (2 : Nat) ^ 63 = 9223372036854775808 by decide]; exact h) 1
 rw [show (2 : Nat) ^ 63 * 1 = 9223372036854775808 by decide, Nat.or_comm] at e
 rw [← e]; omega
def W (x y : Nat) : Nat → Option Nat
 | 0 => nf x
 | k + 1 => (W x y k).bind fun v => Ieee.double.mul v y
end Rk
namespace Go.Proofs.YtadhiihnnkcagaaGreatDoor
open Gk Rk Flt
set_option linter.unusedVariables false
set_option linter.unusedSimpArgs false
theorem Key_any (b : Nat) (hb : b < 18446744073709551616) (w : World) :
  Calls Tryz.prog 173 [F64 b].toArray w (Ret fun v w' => v = U64 (keyN b : Nat) ∧ w = w') := by
 refine calls Tryz.func173 rfl Tryz.ntmps173 rfl (.seq (.region (.run 1 rfl trivial (.nil (.seq (.region (.run 1 rfl trivial (.val (.extern Tryz.func201 (by kernel_rfl) (by kernel_rfl) (by kernel_rfl) (e := Extern.MathFloatBits.float64bits) (by kernel_rfl) (evs_cons (.of rfl) evs_nil) rfl) rfl (.run 1 rfl trivial (.nil (.seq (.seq (.region (.run 1 rfl trivial (.val (.andHi hb (.of rfl) (.of rfl)) rfl (.run 1 rfl trivial (.nil ?_)))))))))))))))))
 refine WC.cond rfl (fun hb8 => ?_) (fun hb8 => ?_)
 ·
  have hc8 := hb8; try simp only [Gk.cs0] at hc8
  refine .seq (.region (.run 1 rfl trivial (.val (.not64 (by omega) (.of rfl)) rfl (.run 1 rfl trivial (.nil (.ret (ret1 Tryz.results173 rfl ?_)))))))
  have e : 9223372036854775808 ≤ b := by
   rw [and_hi hb] at hc8
   split at hc8
   ·assumption
   ·simp at hc8
  exact ⟨_, rfl, by rw [keyN, if_pos e], rfl⟩
 have hc8 := hb8; try simp only [Gk.cs0] at hc8
 refine .skip (.seq (.region (.run 1 rfl trivial (.val (.orHi hb (.of rfl) (.of rfl)) rfl (.run 1 rfl trivial (.nil (.ret (ret1 Tryz.results173 rfl ?_))))))))
 have e : ¬ 9223372036854775808 ≤ b := by
  rw [and_hi hb] at hc8
  split at hc8
  ·simp at hc8
  ·assumption
 exact ⟨_, rfl, by rw [keyN, if_neg e, or_hi (by omega)], rfl⟩
theorem cmpIsNaN_any (a : Int) (w : World) :
  Calls Tryz.prog 200 [U64 a].toArray w (Ret fun v w' => v = .bool false ∧ w = w') := by
 refine calls Tryz.func200 rfl Tryz.ntmps200 rfl (.seq (.region (.run 1 rfl trivial (.nil (.seq (.region (.run 4 rfl trivial (.nil (.ret (ret1 Tryz.results200 rfl ?_))))))))))
 exact ⟨_, rfl, by simp, rfl⟩
theorem Compare_any (a b : Int) (w : World) :
  Calls Tryz.prog 172 [U64 a, U64 b].toArray w (Ret fun v w' => v = I64 (if a < b then -1 else if b < a then 1 else 0) ∧ w = w') := by
 refine calls Tryz.func172 rfl Tryz.ntmps172 rfl (.seq (.region (.run 1 rfl trivial (.nil (.seq (.region (.run 1 rfl trivial (.call Tryz.func200 rfl (evs_cons (.of rfl) evs_nil) rfl (cmpIsNaN_any _ _) ?_))))))))
 rintro _ _ ⟨rfl, rfl⟩
 refine .run 1 rfl trivial (.nil (.seq (.region (.run 1 rfl trivial (.call Tryz.func200 rfl (evs_cons (.of rfl) evs_nil) rfl (cmpIsNaN_any _ _) ?_)))))
 rintro _ _ ⟨rfl, rfl⟩
 refine .run 1 rfl trivial (.nil (.seq (.seq (.region (.run 1 rfl trivial (.nil (.condF (rfl) (.skip (.seq (.seq (.region (.run 1 rfl trivial (.nil (.condF (rfl) (.skip (.seq (.seq (.region (.run 3 rfl trivial (.nil ?_))))))))))))))))))))
 refine WC.cond rfl (fun hb16 => ?_) (fun hb16 => ?_)
 ·
  have hc16 := hb16; try simp only [Gk.cs0] at hc16
  refine .seq (.region (.run 1 rfl trivial (.nil (.ret (ret1 Tryz.results172 rfl ?_)))))
  exact ⟨_, rfl, by rw [if_pos hc16], rfl⟩
 have hc16 := hb16; try simp only [Gk.cs0] at hc16
 refine .skip (.seq (.seq (.region (.run 3 rfl trivial (.nil ?_)))))
 refine WC.cond rfl (fun hb19 => ?_) (fun hb19 => ?_)
 ·
  have hc19 := hb19; try simp only [Gk.cs0] at hc19
  refine .seq (.region (.run 1 rfl trivial (.nil (.ret (ret1 Tryz.results172 rfl ?_)))))
  exact ⟨_, rfl, by rw [if_neg (by omega), if_pos hc19], rfl⟩
 have hc19 := hb19; try simp only [Gk.cs0] at hc19
 refine .skip (.seq (.region (.run 1 rfl trivial (.nil (.ret (ret1 Tryz.results172 rfl ?_))))))
 exact ⟨_, rfl, by rw [if_neg (by omega), if_neg (by omega)], rfl⟩
end Go.Proofs.YtadhiihnnkcagaaGreatDoor
namespace Srt
set_option linter.unusedVariables false
set_option linter.unusedSimpArgs false
variable {k : Int → Nat}
def bef (k : Int → Nat) (x y : Int) : Prop := k x < k y ∨ (k x = k y ∧ x < y)
theorem bef_trans {x y z : Int} (h : bef k x y) (h2 : bef k y z) : bef k x z := by unfold bef at *; omega
theorem bef_irrefl {x : Int} : ¬ bef k x x := by unfold bef; omega
theorem bef_later {x y : Int} (h : x < y) : bef k y x ↔ k y < k x := by unfold bef; omega
theorem not_bef_later {x y : Int} (h : x < y) (h2 : ¬ k y < k x) : bef k x y := by unfold bef; omega
def cmpv (k : Int → Nat) (x y : Int) : Int := if k x < k y then -1 else if k y < k x then 1 else 0
theorem cmpv_neg {x y : Int} : cmpv k x y < 0 ↔ k x < k y := by unfold cmpv; split <;> (try split) <;> omega
abbrev So (k : Int → Nat) (l : List Int) : Prop := l.Pairwise (bef k)
def cross (A T : List Int) : Prop := ∀ a ∈ A, ∀ t ∈ T, a < t
def swp (D : List Int) (i j : Nat) : List Int := (D.set i (D.getD j 0)).set j (D.getD i 0)
theorem swp_comm {D : List Int} {i j : Nat} (h : i ≠ j) : swp D i j = swp D j i := by
 unfold swp; rw [List.set_comm _ _ h]
theorem at_app (A B : List Int) (x : Int) : (A ++ x :: B).getD A.length 0 = x := by simp [List.getD_eq_getElem?_getD]
theorem swp_eq (A M C : List Int) (p q : Int) : swp (A ++ p :: (M ++ q :: C)) A.length (A.length + 1 + M.length) = A ++ q :: (M ++ p :: C) := by
 have h1 := at_app A (M ++ q :: C) p
 have h2 : (A ++ p :: (M ++ q :: C)).getD (A.length + 1 + M.length) 0 = q := by
  have := at_app (A ++ p :: M) C q
  rw [List.length_append, List.length_cons, show A.length + (M.length + 1) = A.length + 1 + M.length by omega] at this
  simpa using this
 unfold swp
 rw [h1, h2]
 have e1 : (A ++ p :: (M ++ q :: C)).set A.length q = A ++ q :: (M ++ q :: C) := by
  rw [List.set_append_right _ _ (Nat.le_refl _), Nat.sub_self]; rfl
 rw [e1, List.set_append_right _ _ (by omega), show A.length + 1 + M.length - A.length = M.length + 1 by omega, List.set_cons_succ, List.set_append_right _ _ (Nat.le_refl _), Nat.sub_self]
 rfl
theorem swp_adj (A C : List Int) (p q : Int) : swp (A ++ p :: q :: C) A.length (A.length + 1) = A ++ q :: p :: C := by
 have := swp_eq A [] C p q
 simpa using this
theorem so_insert {U1 U2 : List Int} {x : Int} (h : So k (U1 ++ U2)) (h1 : ∀ u ∈ U1, bef k u x) (h2 : ∀ u ∈ U2, bef k x u) : So k (U1 ++ x :: U2) := by
 obtain ⟨a, b, c⟩ := List.pairwise_append.1 h
 refine List.pairwise_append.2 ⟨a, List.pairwise_cons.2 ⟨h2, b⟩, fun u hu v hv => ?_⟩
 rcases List.mem_cons.1 hv with rfl | hv
 ·exact h1 u hu
 ·exact c u hu v hv
theorem so_last {U : List Int} {p x : Int} (h : So k (U ++ [p])) (hp : bef k p x) : ∀ u ∈ U ++ [p], bef k u x := by
 intro u hu
 rcases List.mem_append.1 hu with hu | hu
 ·exact bef_trans ((List.pairwise_append.1 h).2.2 u hu p (by simp)) hp
 ·simp at hu; subst hu; exact hp
theorem so_get {V : List Int} (h : So k V) {p q : Nat} (hpq : p < q) (hq : q < V.length) : bef k (V.getD p 0) (V.getD q 0) := by
 have := List.pairwise_iff_getElem.1 h p q (by omega) hq hpq
 simpa [List.getD_eq_getElem?_getD, hq, (show p < V.length by omega)] using this
theorem getD_mem {V : List Int} {p : Nat} (h : p < V.length) : V.getD p 0 ∈ V := by
 rw [List.getD_eq_getElem?_getD, List.getElem?_eq_getElem h]; exact List.getElem_mem h
theorem mem_get {V : List Int} {v : Int} (h : v ∈ V) : ∃ p, p < V.length ∧ V.getD p 0 = v := by
 obtain ⟨p, hp, e⟩ := List.mem_iff_getElem.1 h
 exact ⟨p, hp, by rw [List.getD_eq_getElem?_getD, List.getElem?_eq_getElem hp, ← e]; rfl⟩
theorem mem_take {V : List Int} {n : Nat} {v : Int} (h : v ∈ V.take n) : ∃ p, p < n ∧ p < V.length ∧ V.getD p 0 = v := by
 obtain ⟨p, hp, e⟩ := mem_get h
 rw [List.length_take] at hp
 refine ⟨p, by omega, by omega, ?_⟩
 rw [← e]
 simp [List.getD_eq_getElem?_getD, List.getElem?_take, show p < n by omega]
theorem mem_drop {V : List Int} {n : Nat} {v : Int} (h : v ∈ V.drop n) : ∃ p, n ≤ p ∧ p < V.length ∧ V.getD p 0 = v := by
 obtain ⟨p, hp, e⟩ := mem_get h
 rw [List.length_drop] at hp
 refine ⟨n + p, by omega, by omega, ?_⟩
 rw [← e]
 simp [List.getD_eq_getElem?_getD, List.getElem?_drop]
theorem get_app1 {A B : List Int} {i : Nat} (h : i < A.length) : (A ++ B).getD i 0 = A.getD i 0 := by
 simp [List.getD_eq_getElem?_getD, List.getElem?_append, h]
theorem get_app2 {A B : List Int} {i : Nat} (h : A.length ≤ i) : (A ++ B).getD i 0 = B.getD (i - A.length) 0 := by
 simp [List.getD_eq_getElem?_getD, List.getElem?_append, Nat.not_lt.2 h]
theorem get_mid {F G E : List Int} {i : Nat} (h1 : F.length ≤ i) (h2 : i < F.length + G.length) : (F ++ (G ++ E)).getD i 0 ∈ G := by
 rw [get_app2 h1, get_app1 (by omega)]
 exact getD_mem (by omega)
theorem concat_of {U : List Int} (h : 0 < U.length) : ∃ V q, U = V ++ [q] := by
 have hne : U ≠ [] := fun e => by rw [e] at h; simp at h
 exact ⟨U.dropLast, U.getLast hne, (List.dropLast_concat_getLast hne).symm⟩
theorem cons_of {U : List Int} (h : 0 < U.length) : ∃ q V, U = q :: V := by
 cases U with
 | nil => simp at h
 | cons q V => exact ⟨q, V, rfl⟩
theorem so_key {V : List Int} (h : So k V) {p q : Nat} (hpq : p ≤ q) (hq : q < V.length) : k (V.getD p 0) ≤ k (V.getD q 0) := by
 rcases Nat.lt_or_ge p q with h1 | h1
 ·have := so_get h h1 hq
  unfold bef at this; omega
 ·rw [show p = q by omega]; exact Nat.le_refl _
theorem so_left {V : List Int} {x : Int} {i : Nat} (h : So k V) (hx : ∀ v ∈ V, x < v) (hi : i ≤ V.length) (h1 : i = 0 ∨ k (V.getD (i - 1) 0) < k x) (h2 : i = V.length ∨ ¬ k (V.getD i 0) < k x) : So k (V.take i ++ x :: V.drop i) := by
 refine so_insert (by rw [List.take_append_drop]; exact h) (fun u hu => ?_) (fun u hu => ?_)
 ·obtain ⟨p, p1, p2, rfl⟩ := mem_take hu
  rcases h1 with h1 | h1
  ·omega
  ·have := so_key h (show p ≤ i - 1 by omega) (by omega)
   exact .inl (by omega)
 ·obtain ⟨p, p1, p2, rfl⟩ := mem_drop hu
  rcases h2 with h2 | h2
  ·omega
  ·have := so_key h p1 p2
   exact not_bef_later (hx _ (getD_mem p2)) (by omega)
theorem so_right {V : List Int} {x : Int} {i : Nat} (h : So k V) (hx : ∀ v ∈ V, v < x) (hi : i ≤ V.length) (h1 : i = 0 ∨ ¬ k x < k (V.getD (i - 1) 0)) (h2 : i = V.length ∨ k x < k (V.getD i 0)) : So k (V.take i ++ x :: V.drop i) := by
 refine so_insert (by rw [List.take_append_drop]; exact h) (fun u hu => ?_) (fun u hu => ?_)
 ·obtain ⟨p, p1, p2, rfl⟩ := mem_take hu
  rcases h1 with h1 | h1
  ·omega
  ·have := so_key h (show p ≤ i - 1 by omega) (by omega)
   exact not_bef_later (hx _ (getD_mem p2)) (by omega)
 ·obtain ⟨p, p1, p2, rfl⟩ := mem_drop hu
  rcases h2 with h2 | h2
  ·omega
  ·have := so_key h p1 p2
   exact .inl (by omega)
theorem so_app {X Y : List Int} (hx : So k X) (hy : So k Y) (h : ∀ x ∈ X, ∀ y ∈ Y, bef k x y) : So k (X ++ Y) := List.pairwise_append.2 ⟨hx, hy, h⟩
theorem cross_sub {A T A' T' : List Int} (h : cross A T) (ha : ∀ x ∈ A', x ∈ A) (ht : ∀ x ∈ T', x ∈ T) : cross A' T' := fun a h1 t h2 => h a (ha a h1) t (ht t h2)
theorem split_lt {U V : List Int} (hU : So k U) (hV : So k V) (hc : cross U V) {s e : Nat} (hs : s ≤ U.length) (he : e ≤ V.length)
  (h1 : s = 0 ∨ e = V.length ∨ bef k (U.getD (s - 1) 0) (V.getD e 0)) (h2 : e = 0 ∨ s = U.length ∨ bef k (V.getD (e - 1) 0) (U.getD s 0)) :
  (∀ x ∈ U.take s ++ V.take e, ∀ y ∈ U.drop s ++ V.drop e, bef k x y) := by
 intro x hx y hy
 rcases List.mem_append.1 hx with hx | hx <;> rcases List.mem_append.1 hy with hy | hy
 ·obtain ⟨p, p1, p2, rfl⟩ := mem_take hx
  obtain ⟨q, q1, q2, rfl⟩ := mem_drop hy
  exact so_get hU (by omega) q2
 ·obtain ⟨p, p1, p2, rfl⟩ := mem_take hx
  obtain ⟨q, q1, q2, rfl⟩ := mem_drop hy
  have hb : bef k (U.getD (s - 1) 0) (V.getD e 0) := by
   rcases h1 with h | h | h
   ·omega
   ·omega
   ·exact h
  have e1 : U.getD p 0 = U.getD (s - 1) 0 ∨ bef k (U.getD p 0) (U.getD (s - 1) 0) := by
   rcases Nat.lt_or_ge p (s - 1) with h | h
   ·exact .inr (so_get hU h (by omega))
   ·exact .inl (by rw [show p = s - 1 by omega])
  have e2 : V.getD e 0 = V.getD q 0 ∨ bef k (V.getD e 0) (V.getD q 0) := by
   rcases Nat.lt_or_ge e q with h | h
   ·exact .inr (so_get hV h q2)
   ·exact .inl (by rw [show e = q by omega])
  rcases e1 with e1 | e1 <;> rcases e2 with e2 | e2
  ·rw [e1, ← e2]; exact hb
  ·rw [e1]; exact bef_trans hb e2
  ·rw [← e2]; exact bef_trans e1 hb
  ·exact bef_trans e1 (bef_trans hb e2)
 ·obtain ⟨p, p1, p2, rfl⟩ := mem_take hx
  obtain ⟨q, q1, q2, rfl⟩ := mem_drop hy
  have hb : bef k (V.getD (e - 1) 0) (U.getD s 0) := by
   rcases h2 with h | h | h
   ·omega
   ·omega
   ·exact h
  have e1 : V.getD p 0 = V.getD (e - 1) 0 ∨ bef k (V.getD p 0) (V.getD (e - 1) 0) := by
   rcases Nat.lt_or_ge p (e - 1) with h | h
   ·exact .inr (so_get hV h (by omega))
   ·exact .inl (by rw [show p = e - 1 by omega])
  have e2 : U.getD s 0 = U.getD q 0 ∨ bef k (U.getD s 0) (U.getD q 0) := by
   rcases Nat.lt_or_ge s q with h | h
   ·exact .inr (so_get hU h q2)
   ·exact .inl (by rw [show s = q by omega])
  rcases e1 with e1 | e1 <;> rcases e2 with e2 | e2
  ·rw [e1, ← e2]; exact hb
  ·rw [e1]; exact bef_trans hb e2
  ·rw [← e2]; exact bef_trans e1 hb
  ·exact bef_trans e1 (bef_trans hb e2)
 ·obtain ⟨p, p1, p2, rfl⟩ := mem_take hx
  obtain ⟨q, q1, q2, rfl⟩ := mem_drop hy
  exact so_get hV (by omega) q2
theorem so_unique : ∀ {X Y : List Int}, So k X → So k Y → X.Perm Y → X = Y
 | [], Y, _, _, h => (List.nil_perm.1 h).symm
 | x :: X, [], _, _, h => by have := h.length_eq; simp at this
 | x :: X, y :: Y, hx, hy, h => by
  obtain ⟨hx1, hx2⟩ := List.pairwise_cons.1 hx
  obtain ⟨hy1, hy2⟩ := List.pairwise_cons.1 hy
  have e : x = y := by
   apply Classical.byContradiction
   intro hne
   have m1 : x ∈ Y := by
    rcases List.mem_cons.1 (h.mem_iff.1 (List.mem_cons_self : x ∈ x :: X)) with h | h
    ·exact absurd h hne
    ·exact h
   have m2 : y ∈ X := by
    rcases List.mem_cons.1 (h.mem_iff.2 (List.mem_cons_self : y ∈ y :: Y)) with h | h
    ·exact absurd h.symm hne
    ·exact h
   exact bef_irrefl (bef_trans (hx1 y m2) (hy1 x m1))
  subst e
  rw [so_unique hx2 hy2 (List.Perm.cons_inv h)]
inductive Full (k : Int → Nat) (s : Nat) : List Int → Prop
 | nil : Full k s []
 | cons {U T : List Int} : U.length = s → So k U → cross U T → Full k s T → Full k s (U ++ T)
theorem Full.append {s : Nat} {A B : List Int} (ha : Full k s A) (hb : Full k s B) (hc : cross A B) : Full k s (A ++ B) := by
 induction ha with
 | nil => simpa using hb
 | cons h1 h2 h3 h4 ih =>
  rename_i U T
  rw [List.append_assoc]
  refine .cons h1 h2 (fun a ha t ht => ?_) (ih (cross_sub hc (fun x hx => List.mem_append_right _ hx) (fun x hx => hx)))
  rcases List.mem_append.1 ht with ht | ht
  ·exact h3 a ha t ht
  ·exact hc a (List.mem_append_left _ ha) t ht
theorem Full.one {s : Nat} {U : List Int} (h : U.length = s) (hs : So k U) : Full k s U := by
 have := Full.cons (T := []) h hs (fun _ _ _ h => by cases h) .nil
 simpa using this
def Runs (k : Int → Nat) (s : Nat) (D : List Int) : Prop := ∃ A U, D = A ++ U ∧ Full k s A ∧ U.length < s ∧ So k U ∧ cross A U
theorem Runs.sorted {s : Nat} {D : List Int} (h : Runs k s D) (hl : D.length ≤ s) (h0 : 0 < s) : So k D := by
 obtain ⟨A, U, rfl, hA, hU, hs, hc⟩ := h
 cases hA with
 | nil => simpa using hs
 | cons h1 h2 h3 h4 =>
  rename_i V T
  simp only [List.length_append] at hl
  have hU0 : U = [] := List.eq_nil_of_length_eq_zero (by omega)
  have hT0 : T = [] := List.eq_nil_of_length_eq_zero (by omega)
  subst hU0; subst hT0
  simpa using h2
theorem Full.two {s : Nat} {A : List Int} (h : Full k s A) (hl : s < A.length) : ∃ U V T, A = U ++ (V ++ T) ∧ U.length = s ∧ V.length = s ∧ So k U ∧ So k V ∧ cross U V ∧ cross U T ∧ cross V T ∧ Full k s T := by
 cases h with
 | nil => simp at hl
 | cons h1 h2 h3 h4 =>
  rename_i U T
  cases h4 with
  | nil => simp at hl; omega
  | cons g1 g2 g3 g4 =>
   rename_i V T
   exact ⟨U, V, T, rfl, h1, g1, h2, g2, cross_sub h3 (fun _ h => h) (fun _ h => List.mem_append_left _ h), cross_sub h3 (fun _ h => h) (fun _ h => List.mem_append_right _ h), g3, g4⟩
theorem Full.few {s : Nat} {A : List Int} (h : Full k s A) (hl : A.length < 2 * s) : A = [] ∨ (A.length = s ∧ So k A) := by
 cases h with
 | nil => exact .inl rfl
 | cons h1 h2 h3 h4 =>
  rename_i U T
  cases h4 with
  | nil => exact .inr ⟨by simpa using h1, by simpa using h2⟩
  | cons g1 g2 g3 g4 => simp only [List.length_append] at hl; omega
theorem cross_perm {A T M : List Int} (h : cross A T) (hp : M.Perm A) : cross M T := fun a ha => h a (hp.mem_iff.1 ha)
theorem cross_permr {A T M : List Int} (h : cross A T) (hp : M.Perm T) : cross A M := fun a ha t ht => h a ha t (hp.mem_iff.1 ht)
theorem cross_app {A B T : List Int} (h : cross A T) (h2 : cross B T) : cross (A ++ B) T := fun a ha t ht => by
 rcases List.mem_append.1 ha with ha | ha
 ·exact h a ha t ht
 ·exact h2 a ha t ht
theorem cross_appr {A B T : List Int} (h : cross A B) (h2 : cross A T) : cross A (B ++ T) := fun a ha t ht => by
 rcases List.mem_append.1 ht with ht | ht
 ·exact h a ha t ht
 ·exact h2 a ha t ht
def upto : Nat → List Int
 | 0 => []
 | n + 1 => upto n ++ [(n : Int)]
theorem upto_len : ∀ n, (upto n).length = n
 | 0 => rfl
 | n + 1 => by rw [upto, List.length_append, upto_len n]; rfl
theorem upto_mem : ∀ {n : Nat} {x : Int}, x ∈ upto n ↔ 0 ≤ x ∧ x < n
 | 0, x => by simp [upto] <;> omega
 | n + 1, x => by
  rw [upto, List.mem_append, upto_mem]
  simp
  omega
theorem upto_lt : ∀ n, (upto n).Pairwise (· < ·)
 | 0 => .nil
 | n + 1 => by
  rw [upto]
  refine List.pairwise_append.2 ⟨upto_lt n, by simp, fun a ha b hb => ?_⟩
  simp at hb
  have := upto_mem.1 ha
  omega
def Ord (k : Int → Nat) (n : Nat) (D : List Int) : Prop := So k D ∧ D.Perm (upto n)
theorem Ord.unique {n : Nat} {D D' : List Int} (h : Ord k n D) (h' : Ord k n D') : D = D' := so_unique h.1 h'.1 (h.2.trans h'.2.symm)
theorem Ord.len {n : Nat} {D : List Int} (h : Ord k n D) : D.length = n := by rw [h.2.length_eq, upto_len]
instance (k : Int → Nat) (x y : Int) : Decidable (bef k x y) := by unfold bef; infer_instance
structure Sel (k : Int → Nat) (n : Nat) (us : List Bool) (Os T : List Int) : Prop where
 len : us.length = n
 perm : (Os ++ T).Perm (upto n)
 so : So k Os
 before : ∀ o ∈ Os, ∀ t ∈ T, bef k o t
 used : ∀ o ∈ Os, us.getD o.toNat false = true
 free : ∀ t ∈ T, us.getD t.toNat false = false
def Best (k : Int → Nat) (T : List Int) (i : Nat) (b : Int) : Prop := (b = -1 ∧ ∀ t ∈ T, (i : Int) ≤ t) ∨ (b ∈ T ∧ b < i ∧ ∀ t ∈ T, t < i → t = b ∨ bef k b t)
theorem Sel.mem {n : Nat} {us : List Bool} {Os T : List Int} (h : Sel k n us Os T) {t : Int} (ht : t ∈ T) : 0 ≤ t ∧ t < n := upto_mem.1 (h.perm.mem_iff.1 (List.mem_append_right _ ht))
theorem Sel.lens {n : Nat} {us : List Bool} {Os T : List Int} (h : Sel k n us Os T) : Os.length + T.length = n := by
 have := h.perm.length_eq
 rw [List.length_append, upto_len] at this
 exact this
theorem Best.lt {T : List Int} {i : Nat} {b : Int} (h : Best k T i b) : b < i := by
 rcases h with ⟨h, _⟩ | ⟨_, h, _⟩ <;> omega
theorem Best.is {T : List Int} {i : Nat} {b : Int} (h : Best k T i b) (h0 : ¬ b < 0) : b ∈ T := by
 rcases h with ⟨h, _⟩ | ⟨h, _⟩
 ·omega
 ·exact h
theorem Best.take {n : Nat} {us : List Bool} {Os T : List Int} (h : Sel k n us Os T) {i : Nat} {b : Int} (hb : Best k T i b) (hi : i < n) (hu : us.getD i false = false) (hc : b < 0 ∨ k i < k b) : Best k T (i + 1) i := by
 have hiT : (i : Int) ∈ T := by
  rcases List.mem_append.1 (h.perm.mem_iff.2 (upto_mem.2 ⟨by omega, by omega⟩ : (i : Int) ∈ upto n)) with h1 | h1
  ·have := h.used _ h1
   rw [Int.toNat_natCast, hu] at this; cases this
  ·exact h1
 refine .inr ⟨hiT, by omega, fun t ht hti => ?_⟩
 rcases Int.lt_or_le t i with h1 | h1
 ·right
  rcases hb with ⟨_, h2⟩ | ⟨h2, h3, h4⟩
  ·have := h2 t ht; omega
  ·have hk : k i < k b := by
    rcases hc with hc | hc
    ·have := h.mem h2; omega
    ·exact hc
   rcases h4 t ht h1 with rfl | h5
   ·exact .inl hk
   ·exact bef_trans (.inl hk) h5
 ·left; omega
theorem Best.keep {n : Nat} {us : List Bool} {Os T : List Int} (h : Sel k n us Os T) {i : Nat} {b : Int} (hb : Best k T i b) (hc : us.getD i false = true ∨ (¬ b < 0 ∧ ¬ k i < k b)) : Best k T (i + 1) b := by
 rcases hb with ⟨h1, h2⟩ | ⟨h2, h3, h4⟩
 ·refine .inl ⟨h1, fun t ht => ?_⟩
  have h5 := h2 t ht
  rcases Int.lt_or_le i t with h6 | h6
  ·omega
  ·have e : t = i := by omega
   rcases hc with hc | hc
   ·have := h.free t ht
    rw [e, Int.toNat_natCast, hc] at this; cases this
   ·omega
 ·refine .inr ⟨h2, by omega, fun t ht hti => ?_⟩
  rcases Int.lt_or_le t i with h6 | h6
  ·exact h4 t ht h6
  ·have e : t = i := by omega
   rcases hc with hc | hc
   ·have := h.free t ht
    rw [e, Int.toNat_natCast, hc] at this; cases this
   ·right
    subst e
    unfold bef; omega
theorem Sel.step {n : Nat} {us : List Bool} {Os T : List Int} (h : Sel k n us Os T) {b : Int} (hb : Best k T n b) (hT : 0 < T.length) : 0 ≤ b ∧ b < n ∧ Sel k n (us.set b.toNat true) (Os ++ [b]) (T.erase b) := by
 obtain ⟨t0, ht0⟩ : ∃ t, t ∈ T := by cases T with | nil => simp at hT | cons t T => exact ⟨t, List.mem_cons_self⟩
 have h0 := h.mem ht0
 obtain ⟨h2, h3, h4⟩ : b ∈ T ∧ b < n ∧ ∀ t ∈ T, t < n → t = b ∨ bef k b t := by
  rcases hb with ⟨_, h2⟩ | h2
  ·have := h2 t0 ht0; omega
  ·exact h2
 have hb0 := h.mem h2
 have hp : T.Perm (b :: T.erase b) := List.perm_cons_erase h2
 have hPn : (Os ++ (b :: T.erase b)).Perm (upto n) := (List.Perm.append_left Os hp.symm).trans h.perm
 have hnd : (Os ++ (b :: T.erase b)).Nodup := hPn.nodup_iff.2 ((upto_lt n).imp fun h => by omega)
 have hd2 := (List.nodup_append.1 hnd).2.1
 have hnb : b ∉ T.erase b := (List.nodup_cons.1 hd2).1
 have hnO : b ∉ Os := fun ho => (List.nodup_append.1 hnd).2.2 b ho b List.mem_cons_self rfl
 have sub : ∀ t, t ∈ T.erase b → t ∈ T := fun t ht => List.mem_of_mem_erase ht
 refine ⟨hb0.1, h3, by simpa using h.len, by simpa using hPn, ?_, ?_, ?_, ?_⟩
 ·refine List.pairwise_append.2 ⟨h.so, by simp, fun o ho x hx => ?_⟩
  simp at hx; subst hx
  exact h.before o ho _ h2
 ·intro o ho t ht
  rcases List.mem_append.1 ho with ho | ho
  ·exact h.before o ho t (sub t ht)
  ·simp at ho; subst ho
   have hm := h.mem (sub t ht)
   rcases h4 t (sub t ht) (by omega) with e | e
   ·subst e; exact absurd ht hnb
   ·exact e
 ·intro o ho
  rcases List.mem_append.1 ho with ho | ho
  ·have := h.used o ho
   have hne : ¬ b.toNat = o.toNat := fun e => by
    have hm : 0 ≤ o := (upto_mem.1 (h.perm.mem_iff.1 (List.mem_append_left _ ho))).1
    have : b = o := by omega
    subst this; exact hnO ho
   simpa [List.getD_eq_getElem?_getD, List.getElem?_set, hne] using this
  ·simp at ho; subst ho
   have hl : o.toNat < us.length := by rw [h.len]; omega
   simp [List.getD_eq_getElem?_getD, List.getElem?_set, hl]
 ·intro t ht
  have := h.free t (sub t ht)
  have hne : ¬ b.toNat = t.toNat := fun e => by
   have hm := h.mem (sub t ht)
   have : b = t := by omega
   subst this; exact hnb ht
  simpa [List.getD_eq_getElem?_getD, List.getElem?_set, hne] using this
theorem Sel.done {n : Nat} {us : List Bool} {Os T : List Int} (h : Sel k n us Os T) (hl : n ≤ Os.length) : Ord k n Os := by
 have := h.lens
 have hT : T = [] := List.eq_nil_of_length_eq_zero (by omega)
 subst hT
 exact ⟨h.so, by simpa using h.perm⟩
end Srt
namespace Go.Proofs.YtadhiihnnkcagaaGreatDoor
open Gk Rk
set_option linter.unusedVariables false
set_option linter.unusedSimpArgs false
structure Cx (I : Im) (l : List Nat) (p : Addr) : Prop where
 ex : ∃ a c, At I p [.slice a l.length c] ∧ RS I a 1 l.length (l.map F64)
 small : ∀ v ∈ l, v < 18446744073709551616
def kx (l : List Nat) (x : Int) : Nat := keyN (l.getD x.toNat 0)
theorem Cx.mono {I J : Im} {l : List Nat} {p : Addr} (h : Cx I l p) (hl : Le I J) : Cx J l p := by
 obtain ⟨⟨a, c, h1, h2⟩, h3⟩ := h
 exact ⟨⟨a, c, h1.mono hl, h2.mono hl⟩, h3⟩
theorem small_get {l : List Nat} (h : ∀ v ∈ l, v < 18446744073709551616) (i : Nat) : l.getD i 0 < 18446744073709551616 := by
 by_cases hi : i < l.length
 ·refine h _ ?_
  rw [List.getD_eq_getElem?_getD, List.getElem?_eq_getElem hi]
  exact List.getElem_mem hi
 ·rw [List.getD_eq_getElem?_getD, List.getElem?_eq_none (by omega)]; decide
abbrev CF (p : Addr) : Value := .func (.func 171) #[] [.pointer (some p)].toArray
theorem cmp_any {l : List Nat} {p : Addr} {I : Im} (h : Cx I l p) (x y : Int) (h0 : 0 ≤ x) (h1 : x < (l.length : Int)) (g0 : 0 ≤ y) (g1 : y < (l.length : Int)) (B w : World) (As : List Assn) (hS : Sat B w I As) :
  Calls Tryz.prog 171 [I64 x, I64 y, .pointer (some p)].toArray w (Ret fun v w' => v = I64 (Srt.cmpv (kx l) x y) ∧ Sat B w' I As) := by
 obtain ⟨sa, sc, hp, hr⟩ := h.ex
 obtain ⟨pa, rfl, ha⟩ := hr.2 (by omega)
 refine calls Tryz.func171 rfl Tryz.ntmps171 rfl (.seq (.region (.run 1 rfl trivial (.nil (.seq (.quiet (by kernel_rfl) (by kernel_rfl) hS (.val (fun w hS => .ldI (.of rfl) hS hp Tryz.isAgg192 rfl) rfl (.val (fun w hS => (.move (.of rfl))) rfl (.val (fun w hS => (.indexAddrI (.of rfl) (.of rfl) (by omega) (by omega) Tryz.underlying192 Tryz.sizeOf32)) rfl (.val (fun w hS => .ldEI F64 l 0 (i := x) (.of rfl) hS ha rfl Tryz.isAgg32 h0 h1) rfl (.call Tryz.func173 rfl (evs_cons (.of rfl) evs_nil) rfl (fun w hS => quiet_of (Key_any _ (small_get h.small (x).toNat) w) hS) (.val (fun w hS => .ldI (.of rfl) hS hp Tryz.isAgg192 rfl) rfl (.val (fun w hS => (.move (.of rfl))) rfl (.val (fun w hS => (.indexAddrI (.of rfl) (.of rfl) (by omega) (by omega) Tryz.underlying192 Tryz.sizeOf32)) rfl (.val (fun w hS => .ldEI F64 l 0 (i := y) (.of rfl) hS ha rfl Tryz.isAgg32 g0 g1) rfl (.call Tryz.func173 rfl (evs_cons (.of rfl) evs_nil) rfl (fun w hS => quiet_of (Key_any _ (small_get h.small (y).toNat) w) hS) (.call Tryz.func172 rfl (evs_cons (.of rfl) (evs_cons (.of rfl) evs_nil)) rfl (fun w hS => quiet_of (Compare_any _ _ w) hS) (.val (fun w hS => (.assign (.of rfl))) rfl (.nil ?_)))))))))))))))))))
 clear hS; intro w hS
 refine .ret (ret1 Tryz.results171 rfl ?_)
 refine ⟨_, rfl, ?_, hS⟩
 unfold Srt.cmpv kx
 simp only [Int.ofNat_lt]
theorem swapRange_any (U X M Y C : List Int) (hl : X.length = Y.length) (cv : Value) (b0 n c : Nat) (r : List Value) (hn : ((U.length + (X.length + (M.length + Y.length)) : Nat) : Int) ≤ n) (hb : (U.length + (X.length + (M.length + (Y.length + C.length)))) ≤ 1000000) (B w : World) (I : Im) (As : List Assn) (hS : Sat B w I (blk b0 ((U ++ (X ++ (M ++ (Y ++ C)))).map I64 ++ r) 3 :: As)) :
  Calls Tryz.prog 243 [.slice (some (ad b0 0)) n c, I64 (U.length : Nat), I64 (U.length + Y.length + M.length : Nat), I64 (Y.length : Nat), cv].toArray w (Ret fun v w' => v = .tuple #[] ∧ Sat B w' I (blk b0 ((U ++ (Y ++ (M ++ (X ++ C)))).map I64 ++ r) 3 :: As)) := by
 refine calls Tryz.func243 rfl Tryz.ntmps243 rfl (.seq (.region (.run 1 rfl trivial (.nil (.block (.loop (σ := Int × List Int × List Int × List Int × List Int) (fun ⟨i, X1, X2, Y1, Y2⟩ => [(0, .slice (some (ad b0 0)) n c), (1, I64 (U.length : Nat)), (2, I64 (U.length + Y.length + M.length : Nat)), (3, I64 (Y.length : Nat)), (10, I64 i)]) (fun ⟨i, X1, X2, Y1, Y2⟩ w => i = (X1.length : Int) ∧ X1.length = Y1.length ∧ X1 ++ X2 = X ∧ Y1 ++ Y2 = Y ∧ Sat B w I (blk b0 ((U ++ (Y1 ++ (X2 ++ (M ++ (X1 ++ (Y2 ++ C)))))).map I64 ++ r) 3 :: As)) (fun ⟨i, X1, X2, Y1, Y2⟩ => Y2.length) (0, [], X, [], Y) ⟨rfl, rfl, rfl, rfl, rfl, trivial⟩ ⟨rfl, rfl, rfl, rfl, hS⟩ ?_))))))
 rintro ⟨i, X1, X2, Y1, Y2⟩ w ⟨hi, hxy, hX, hY, hS⟩
 change WC _ _ _ _ [(0, .slice (some (ad b0 0)) n c), (1, I64 (U.length : Nat)), (2, I64 (U.length + Y.length + M.length : Nat)), (3, I64 (Y.length : Nat)), (10, I64 i)] w
 have hXl : X1.length + X2.length = X.length := by rw [← hX, List.length_append]
 have hYl : Y1.length + Y2.length = Y.length := by rw [← hY, List.length_append]
 obtain ⟨D, hD⟩ : ∃ D, D = U ++ (Y1 ++ (X2 ++ (M ++ (X1 ++ (Y2 ++ C))))) := ⟨_, rfl⟩
 rw [← hD] at hS
 have hDl : D.length = U.length + (X.length + (M.length + (Y.length + C.length))) := by rw [hD]; simp only [List.length_append]; omega
 refine .seq (.seq (.region (.run 3 rfl trivial (.nil ?_))))
 refine WC.cond rfl (fun hb13 => ?_) (fun hb13 => ?_)
 ·
  have hc13 := hb13; try simp only [Gk.cs0] at hc13
  refine .skip (.seq (.block (.drawn (fun w => ∃ R, Sat B w I (blk b0 ((D).map I64 ++ r) 3 :: R)) (fun j => !([21, 23].contains j)) (by kernel_rfl) ?_)))
  replace hS := hS.drew; generalize w.drew = w at hS ⊢
  have hH : ∃ R, Sat B w I (blk b0 ((D).map I64 ++ r) 3 :: R) := ⟨_, (hS.pick 0 rfl)⟩
  refine .takeP (i := 0) rfl (by kernel_rfl) (by kernel_rfl) (by kernel_rfl) (fun w => (.move (.of rfl))) rfl (.takeP (i := 1) rfl (by kernel_rfl) (by kernel_rfl) (by kernel_rfl) (fun w => (.move (.of rfl))) rfl (.takeP (i := 2) rfl (by kernel_rfl) (by kernel_rfl) (by kernel_rfl) (fun w => (.move (.of rfl))) rfl (.takeP (i := 3) rfl (by kernel_rfl) (by kernel_rfl) (by kernel_rfl) (fun w => (.add (.of rfl) (.of rfl) ⟨by omega, by omega⟩)) rfl (.takeP (i := 4) rfl (by kernel_rfl) (by kernel_rfl) (by kernel_rfl) (fun w => (.move (.of rfl))) rfl (.takeP (i := 5) rfl (by kernel_rfl) (by kernel_rfl) (by kernel_rfl) (fun w => (.move (.of rfl))) rfl (.takeP (i := 6) rfl (by kernel_rfl) (by kernel_rfl) (by kernel_rfl) (fun w => (.move (.of rfl))) rfl (.takeP (i := 7) rfl (by kernel_rfl) (by kernel_rfl) (by kernel_rfl) (fun w => (.add (.of rfl) (.of rfl) ⟨by omega, by omega⟩)) rfl (.takeP (i := 8) rfl (by kernel_rfl) (by kernel_rfl) (by kernel_rfl) (fun w => (.move (.of rfl))) rfl (.takeP (i := 9) rfl (by kernel_rfl) (by kernel_rfl) (by kernel_rfl) (fun w => (.move (.of rfl))) rfl (.takeP (i := 10) rfl (by kernel_rfl) (by kernel_rfl) (by kernel_rfl) (fun w => (.move (.of rfl))) rfl (.takeP (i := 11) rfl (by kernel_rfl) (by kernel_rfl) (by kernel_rfl) (fun w => (.add (.of rfl) (.of rfl) ⟨by omega, by omega⟩)) rfl (.takeP (i := 12) rfl (by kernel_rfl) (by kernel_rfl) (by kernel_rfl) (fun w => (.indexAddr (.of rfl) (.of rfl) (by omega) (by omega) Tryz.underlying195 Tryz.sizeOf3)) rfl (.take (i := 13) rfl (by kernel_rfl) (by kernel_rfl) (by kernel_rfl) (by kernel_rfl) hH (fun w ⟨R, hS⟩ => .ldE I64 D 0 r (i := ((U.length + Y.length + M.length : Nat) : Int) + i) (.of rfl) hS (k := 0) rfl rfl Tryz.isAgg3 (by omega) (by omega)) rfl (.takeP (i := 14) rfl (by kernel_rfl) (by kernel_rfl) (by kernel_rfl) (fun w => (.move (.of rfl))) rfl (.takeP (i := 15) rfl (by kernel_rfl) (by kernel_rfl) (by kernel_rfl) (fun w => (.move (.of rfl))) rfl (.takeP (i := 16) rfl (by kernel_rfl) (by kernel_rfl) (by kernel_rfl) (fun w => (.move (.of rfl))) rfl (.takeP (i := 17) rfl (by kernel_rfl) (by kernel_rfl) (by kernel_rfl) (fun w => (.add (.of rfl) (.of rfl) ⟨by omega, by omega⟩)) rfl (.takeP (i := 18) rfl (by kernel_rfl) (by kernel_rfl) (by kernel_rfl) (fun w => (.indexAddr (.of rfl) (.of rfl) (by omega) (by omega) Tryz.underlying195 Tryz.sizeOf3)) rfl (.take (i := 19) rfl (by kernel_rfl) (by kernel_rfl) (by kernel_rfl) (by kernel_rfl) hH (fun w ⟨R, hS⟩ => .ldE I64 D 0 r (i := ((U.length : Nat) : Int) + i) (.of rfl) hS (k := 0) rfl rfl Tryz.isAgg3 (by omega) (by omega)) rfl (.takeP (i := 20) rfl (by kernel_rfl) (by kernel_rfl) (by kernel_rfl) (fun w => (.indexAddr (.of rfl) (.of rfl) (by omega) (by omega) Tryz.underlying195 Tryz.sizeOf3)) rfl ?_))))))))))))))))))))
  refine WD.branch [21] (by kernel_rfl) rfl (WO.cons rfl ?_ (WO.nil))
  refine WL.stE I64 _ r hS (k := 0) rfl (.of rfl) (.of rfl) rfl rfl Tryz.sizeOf3 (by omega) (by (try rw [List.length_set]); omega) ?_
  clear hS; intro w hS; dsimp only [List.set] at hS
  refine .nil ?_
  refine And.intro (by intro h; cases h) ?_
  refine .takeP (i := 22) rfl (by kernel_rfl) (by kernel_rfl) (by kernel_rfl) (fun w => (.indexAddr (.of rfl) (.of rfl) (by omega) (by omega) Tryz.underlying195 Tryz.sizeOf3)) rfl ?_
  refine WD.branch [23] (by kernel_rfl) rfl (WO.cons rfl ?_ (WO.nil))
  refine WL.stE I64 _ r hS (k := 0) rfl (.of rfl) (.of rfl) rfl rfl Tryz.sizeOf3 (by omega) (by (try rw [List.length_set]); omega) ?_
  clear hS; intro w hS; dsimp only [List.set] at hS
  refine .nil ?_
  refine And.intro (by intro h; cases h) ?_
  refine .done (by kernel_rfl) (.region (.run 3 rfl ⟨⟨by omega, by omega⟩, trivial⟩ (.nil ?_)))
  obtain ⟨p, X3, rfl⟩ : ∃ p X3, X2 = p :: X3 := by cases X2 with | nil => simp at hXl; omega | cons p X3 => exact ⟨p, X3, rfl⟩
  obtain ⟨q, Y3, rfl⟩ : ∃ q Y3, Y2 = q :: Y3 := by cases Y2 with | nil => simp at hYl; omega | cons q Y3 => exact ⟨q, Y3, rfl⟩
  have e := Srt.swp_eq (U ++ Y1) (X3 ++ (M ++ X1)) (Y3 ++ C) p q
  have e1 : D = (U ++ Y1) ++ p :: ((X3 ++ (M ++ X1)) ++ q :: (Y3 ++ C)) := by rw [hD]; simp only [List.append_assoc, List.cons_append]
  simp only [List.length_cons] at hXl hYl
  rw [← e1, show (U ++ Y1).length = (((U.length : Nat) : Int) + i).toNat by rw [List.length_append]; omega, show (((U.length : Nat) : Int) + i).toNat + 1 + (X3 ++ (M ++ X1)).length = (((U.length + Y.length + M.length : Nat) : Int) + i).toNat by simp only [List.length_append]; omega] at e
  unfold Srt.swp at e
  rw [e] at hS
  refine ⟨(i + 1, X1 ++ [p], X3, Y1 ++ [q], Y3), ⟨rfl, rfl, rfl, rfl, rfl, trivial⟩, ⟨by simp only [List.length_append, List.length_cons, List.length_nil]; omega, by simp only [List.length_append, List.length_cons, List.length_nil]; omega, by rw [← hX]; simp, by rw [← hY]; simp, ?_⟩, by simp⟩
  have e2 : (U ++ Y1) ++ q :: ((X3 ++ (M ++ X1)) ++ p :: (Y3 ++ C)) = U ++ ((Y1 ++ [q]) ++ (X3 ++ (M ++ ((X1 ++ [p]) ++ (Y3 ++ C))))) := by simp only [List.append_assoc, List.cons_append, List.nil_append]
  rw [← e2]; exact hS
 have hc13 := hb13; try simp only [Gk.cs0] at hc13
 refine .exit (end0 Tryz.results243 ?_)
 have hY2 : Y2 = [] := List.eq_nil_of_length_eq_zero (by omega)
 have hX2 : X2 = [] := List.eq_nil_of_length_eq_zero (by omega)
 subst hY2; subst hX2
 rw [List.append_nil] at hX hY
 rw [hX, hY] at hD
 rw [hD] at hS
 exact ⟨_, rfl, rfl, hS⟩
theorem swapRange_at (U X M Y C : List Int) (hl : X.length = Y.length) (cv : Value) (b0 n c : Nat) (r : List Value) (ia ib ic : Int) (ha : ia = U.length) (hib : ib = U.length + Y.length + M.length) (hic : ic = Y.length) (hn : ((U.length + (X.length + (M.length + Y.length)) : Nat) : Int) ≤ n) (hb : (U.length + (X.length + (M.length + (Y.length + C.length)))) ≤ 1000000) (B w : World) (I : Im) (As : List Assn) (hS : Sat B w I (blk b0 ((U ++ (X ++ (M ++ (Y ++ C)))).map I64 ++ r) 3 :: As)) :
  Calls Tryz.prog 243 [.slice (some (ad b0 0)) n c, I64 ia, I64 ib, I64 ic, cv].toArray w (Ret fun v w' => v = .tuple #[] ∧ Sat B w' I (blk b0 ((U ++ (Y ++ (M ++ (X ++ C)))).map I64 ++ r) 3 :: As)) := by
 subst ha; subst hic
 obtain rfl : ib = ((U.length + Y.length + M.length : Nat) : Int) := by omega
 exact swapRange_any U X M Y C hl cv b0 n c r hn hb B w I As hS
end Go.Proofs.YtadhiihnnkcagaaGreatDoor
namespace Go.Proofs.YtadhiihnnkcagaaGreatDoor
open Gk Rk
set_option linter.unusedVariables false
set_option linter.unusedSimpArgs false
set_option maxHeartbeats 400000 in
theorem ins_any {l : List Nat} {p : Addr} {I : Im} (hx : Cx I l p) (F R C : List Int) (hR : R.Pairwise (· < ·)) (hin : ∀ x ∈ R, 0 ≤ x ∧ x < (l.length : Int)) (b0 n c : Nat) (r : List Value) (ib : Int) (hib : ib = F.length + R.length) (hn : ib ≤ n) (hbb : F.length + R.length + C.length ≤ 1000000) (B w : World) (As : List Assn) (hS : Sat B w I (blk b0 ((F ++ (R ++ C)).map I64 ++ r) 3 :: As)) :
  Calls Tryz.prog 218 [.slice (some (ad b0 0)) n c, I64 (F.length : Nat), I64 ib, CF p].toArray w (Ret fun v w' => v = .tuple #[] ∧ ∃ M, M.Perm R ∧ Srt.So (kx l) M ∧ Sat B w' I (blk b0 ((F ++ (M ++ C)).map I64 ++ r) 3 :: As)) := by
 refine calls Tryz.func218 rfl Tryz.ntmps218 rfl (.seq (.region (.run 3 rfl ⟨⟨by omega, by omega⟩, trivial⟩ (.nil (.block ?_)))))
 have hst : (F.length : Int) + 1 = max ((F.length : Int) + (R.take 1).length) (F.length + 1) ∧ (R.take 1 = [] → R.drop 1 = []) ∧ Srt.So (kx l) (R.take 1) ∧ Srt.cross (R.take 1) (R.drop 1) ∧ (R.drop 1).Pairwise (· < ·) ∧ (R.take 1 ++ R.drop 1).Perm R ∧ Sat B w I (blk b0 ((F ++ (R.take 1 ++ (R.drop 1 ++ C))).map I64 ++ r) 3 :: As) := by
  refine ⟨?_, ?_, ?_, ?_, ?_, by rw [List.take_append_drop], ?_⟩
  ·cases R <;> simp <;> omega
  ·intro h; cases R with
   | nil => rfl
   | cons a R => simp at h
  ·cases R with
   | nil => exact .nil
   | cons a R => simp
  ·cases R with
   | nil => intro _ h; simp at h
   | cons a R => intro u hu t ht; simp at hu ht; subst hu; exact (List.pairwise_cons.1 hR).1 t ht
  ·exact hR.sublist (List.drop_sublist 1 R)
  ·have e : F ++ (R.take 1 ++ (R.drop 1 ++ C)) = F ++ (R ++ C) := by rw [← List.append_assoc (R.take 1), List.take_append_drop]
   rw [e]; exact hS
 refine .loop (σ := Int × List Int × List Int) (fun ⟨i, M, T⟩ => [(0, .slice (some (ad b0 0)) n c), (1, I64 (F.length : Nat)), (2, I64 ib), (3, CF p), (8, I64 i)]) (fun ⟨i, M, T⟩ w => i = max ((F.length : Int) + M.length) (F.length + 1) ∧ (M = [] → T = []) ∧ Srt.So (kx l) M ∧ Srt.cross M T ∧ T.Pairwise (· < ·) ∧ (M ++ T).Perm R ∧ Sat B w I (blk b0 ((F ++ (M ++ (T ++ C))).map I64 ++ r) 3 :: As)) (fun ⟨i, M, T⟩ => T.length) ((F.length : Int) + 1, R.take 1, R.drop 1) ⟨rfl, rfl, rfl, rfl, rfl, trivial⟩ hst ?_
 rintro ⟨i, M, T⟩ w ⟨hi, hMT, hM, hc, hT, hP, hS⟩
 change WC _ _ _ _ [(0, .slice (some (ad b0 0)) n c), (1, I64 (F.length : Nat)), (2, I64 ib), (3, CF p), (8, I64 i)] w
 have hPl := hP.length_eq
 rw [List.length_append] at hPl
 refine .seq (.seq (.region (.run 3 rfl trivial (.nil ?_))))
 refine WC.cond rfl (fun hb14 => ?_) (fun hb14 => ?_)
 ·
  have hc14 := hb14; try simp only [Gk.cs0] at hc14
  refine .skip (.seq (.block (.seq ?_)))
  have hMn : 0 < M.length := by
   rcases Nat.eq_zero_or_pos M.length with h | h
   ·have h2 := hMT (List.eq_nil_of_length_eq_zero h); rw [h2] at hPl; simp at hPl; omega
   ·exact h
  obtain ⟨x, T, rfl⟩ := Srt.cons_of (U := T) (by omega)
  simp only [List.length_cons] at hPl
  refine .region (.run 2 rfl trivial (.nil (.block ?_)))
  refine WC.loop (σ := Int × List Int × List Int) (fun ⟨j, U1, U2⟩ => [(0, .slice (some (ad b0 0)) n c), (1, I64 (F.length : Nat)), (2, I64 ib), (3, CF p), (8, I64 i), (9, I64 j)]) (fun ⟨j, U1, U2⟩ w => j = (F.length : Int) + U1.length ∧ Srt.So (kx l) (U1 ++ U2) ∧ (∀ u ∈ U2, Srt.bef (kx l) x u) ∧ (U1 ++ U2).Perm M ∧ Sat B w I (blk b0 ((F ++ (U1 ++ x :: (U2 ++ (T ++ C)))).map I64 ++ r) 3 :: As)) (fun ⟨j, U1, U2⟩ => U1.length) (i, M, []) ⟨rfl, rfl, rfl, rfl, rfl, rfl, trivial⟩ ⟨by (try dsimp only); omega, by rw [List.append_nil]; exact hM, (fun _ h => by cases h), by rw [List.append_nil], hS⟩ ?_
  rintro ⟨j, U1, U2⟩ w ⟨hj, hs, hb2, hp2, hS⟩
  change WC _ _ _ _ [(0, .slice (some (ad b0 0)) n c), (1, I64 (F.length : Nat)), (2, I64 ib), (3, CF p), (8, I64 i), (9, I64 j)] w
  obtain ⟨D, hD⟩ : ∃ D, D = F ++ (U1 ++ x :: (U2 ++ (T ++ C))) := ⟨_, rfl⟩
  rw [← hD] at hS
  have hp3 := hp2.length_eq
  rw [List.length_append] at hp3
  have hDl : D.length = F.length + (U1.length + 1 + U2.length + (T.length + C.length)) := by rw [hD]; simp only [List.length_append, List.length_cons]; omega
  have hinR : ∀ v ∈ U1 ++ x :: U2, 0 ≤ v ∧ v < (l.length : Int) := fun v hv => by
   refine hin v (hP.mem_iff.1 ?_)
   rcases List.mem_append.1 hv with h | h
   ·exact List.mem_append_left _ (hp2.mem_iff.1 (List.mem_append_left _ h))
   ·rcases List.mem_cons.1 h with rfl | h
    ·exact List.mem_append_right _ List.mem_cons_self
    ·exact List.mem_append_left _ (hp2.mem_iff.1 (List.mem_append_right _ h))
  have hin2 : ∀ q : Nat, F.length ≤ q → q < F.length + (U1.length + 1 + U2.length) → 0 ≤ D.getD q 0 ∧ D.getD q 0 < (l.length : Int) := fun q h1 h2 => by
   refine hinR _ ?_
   have e : D = F ++ ((U1 ++ x :: U2) ++ (T ++ C)) := by rw [hD]; simp only [List.append_assoc, List.cons_append]
   rw [e]
   exact Srt.get_mid h1 (by simp only [List.length_append, List.length_cons]; omega)
  have hx1 : D.getD j.toNat 0 = x := by
   have := Srt.at_app (F ++ U1) (U2 ++ (T ++ C)) x
   rw [show (F ++ U1).length = j.toNat by rw [List.length_append]; omega] at this
   rw [hD, ← List.append_assoc]
   exact this
  have hlt : ∀ u ∈ U1 ++ U2, u < x := fun u hu => hc u (hp2.mem_iff.1 hu) x List.mem_cons_self
  refine .seq (.seq (.quiet (by kernel_rfl) (by kernel_rfl) hS (.val (fun w hS => (.move (.of rfl))) rfl (.val (fun w hS => (.move (.of rfl))) rfl (.val (fun w hS => (.gtr (.of rfl) (.of rfl))) rfl (.val (fun w hS => (.move (.of rfl))) rfl (.gval rfl rfl rfl (fun hg1 w hS => (.move (.of rfl))) rfl (.gval rfl rfl rfl (fun hg1 w hS => (.move (.of rfl))) rfl (.gval rfl rfl rfl (fun hg1 w hS => (.move (.of rfl))) rfl ?_)))))))))
  refine WQ.gval rfl rfl rfl (fun hg1 w hS => (.indexAddr (.gd hg1 rfl) (.gd hg1 rfl) (by (try simp only [Gk.cs0] at hg1); omega) (by (try simp only [Gk.cs0] at hg1); omega) Tryz.underlying195 Tryz.sizeOf3)) rfl ?_
  refine WQ.gval rfl rfl rfl (fun hg1 w hS => .ldE I64 D 0 r (i := j) (.gd hg1 rfl) hS (k := 0) rfl rfl Tryz.isAgg3 (by (try simp only [Gk.cs0] at hg1); omega) (by (try simp only [Gk.cs0] at hg1); omega)) rfl ?_
  refine .gval rfl rfl rfl (fun hg1 w hS => (.move (.of rfl))) rfl (.gval rfl rfl rfl (fun hg1 w hS => (.move (.of rfl))) rfl (.gval rfl rfl rfl (fun hg1 w hS => (.sub (.gd hg1 rfl) (.of rfl) ⟨by omega, by omega⟩)) rfl ?_))
  refine WQ.gval rfl rfl rfl (fun hg1 w hS => (.indexAddr (.gd hg1 rfl) (.gd hg1 rfl) (by (try simp only [Gk.cs0] at hg1); omega) (by (try simp only [Gk.cs0] at hg1); omega) Tryz.underlying195 Tryz.sizeOf3)) rfl ?_
  refine WQ.gval rfl rfl rfl (fun hg1 w hS => .ldE I64 D 0 r (i := j - 1) (.gd hg1 rfl) hS (k := 0) rfl rfl Tryz.isAgg3 (by (try simp only [Gk.cs0] at hg1); omega) (by (try simp only [Gk.cs0] at hg1); omega)) rfl ?_
  refine WQ.gvcall rfl rfl rfl Tryz.func171 rfl (fun hg1 => .gd hg1 rfl) (fun hg1 => evs_cons (.gd hg1 rfl) (evs_cons (.gd hg1 rfl) evs_nil)) rfl (fun hg1 w hS => by have hj1 := hin2 j.toNat (by (try simp only [Gk.cs0] at hg1); omega) (by (try simp only [Gk.cs0] at hg1); omega); have hj2 := hin2 (j - 1).toNat (by (try simp only [Gk.cs0] at hg1); omega) (by (try simp only [Gk.cs0] at hg1); omega); exact cmp_any hx _ _ hj1.1 hj1.2 hj2.1 hj2.2 B w _ hS) ?_
  refine .gval rfl rfl rfl (fun hg1 w hS => (.lss (.gd hg1 rfl) (.of rfl))) rfl (.val (fun w hS => (.pand (.of rfl) (.of rfl) (.of rfl))) rfl (.nil ?_))
  clear hS; intro w hS
  refine WC.cond rfl (fun hb34 => ?_) (fun hb34 => ?_)
  ·
   have hc34 := hb34; try simp only [Gk.cs0] at hc34
   refine .skip (.seq (.block (.drawn (fun w => ∃ R, Sat B w I (blk b0 ((D).map I64 ++ r) 3 :: R)) (fun j => !([15, 17].contains j)) (by kernel_rfl) ?_)))
   replace hS := hS.drew; generalize w.drew = w at hS ⊢
   have hH : ∃ R, Sat B w I (blk b0 ((D).map I64 ++ r) 3 :: R) := ⟨_, (hS.pick 0 rfl)⟩
   refine .takeP (i := 0) rfl (by kernel_rfl) (by kernel_rfl) (by kernel_rfl) (fun w => (.move (.of rfl))) rfl (.takeP (i := 1) rfl (by kernel_rfl) (by kernel_rfl) (by kernel_rfl) (fun w => (.move (.of rfl))) rfl (.takeP (i := 2) rfl (by kernel_rfl) (by kernel_rfl) (by kernel_rfl) (fun w => (.move (.of rfl))) rfl (.takeP (i := 3) rfl (by kernel_rfl) (by kernel_rfl) (by kernel_rfl) (fun w => (.move (.of rfl))) rfl (.takeP (i := 4) rfl (by kernel_rfl) (by kernel_rfl) (by kernel_rfl) (fun w => (.sub (.of rfl) (.of rfl) ⟨by omega, by omega⟩)) rfl (.takeP (i := 5) rfl (by kernel_rfl) (by kernel_rfl) (by kernel_rfl) (fun w => (.move (.of rfl))) rfl (.takeP (i := 6) rfl (by kernel_rfl) (by kernel_rfl) (by kernel_rfl) (fun w => (.move (.of rfl))) rfl (.takeP (i := 7) rfl (by kernel_rfl) (by kernel_rfl) (by kernel_rfl) (fun w => (.sub (.of rfl) (.of rfl) ⟨by omega, by omega⟩)) rfl (.takeP (i := 8) rfl (by kernel_rfl) (by kernel_rfl) (by kernel_rfl) (fun w => (.indexAddr (.of rfl) (.of rfl) (by omega) (by omega) Tryz.underlying195 Tryz.sizeOf3)) rfl (.take (i := 9) rfl (by kernel_rfl) (by kernel_rfl) (by kernel_rfl) (by kernel_rfl) hH (fun w ⟨R, hS⟩ => .ldE I64 D 0 r (i := j - 1) (.of rfl) hS (k := 0) rfl rfl Tryz.isAgg3 (by omega) (by omega)) rfl (.takeP (i := 10) rfl (by kernel_rfl) (by kernel_rfl) (by kernel_rfl) (fun w => (.move (.of rfl))) rfl (.takeP (i := 11) rfl (by kernel_rfl) (by kernel_rfl) (by kernel_rfl) (fun w => (.move (.of rfl))) rfl (.takeP (i := 12) rfl (by kernel_rfl) (by kernel_rfl) (by kernel_rfl) (fun w => (.indexAddr (.of rfl) (.of rfl) (by omega) (by omega) Tryz.underlying195 Tryz.sizeOf3)) rfl (.take (i := 13) rfl (by kernel_rfl) (by kernel_rfl) (by kernel_rfl) (by kernel_rfl) hH (fun w ⟨R, hS⟩ => .ldE I64 D 0 r (i := j) (.of rfl) hS (k := 0) rfl rfl Tryz.isAgg3 (by omega) (by omega)) rfl (.takeP (i := 14) rfl (by kernel_rfl) (by kernel_rfl) (by kernel_rfl) (fun w => (.indexAddr (.of rfl) (.of rfl) (by omega) (by omega) Tryz.underlying195 Tryz.sizeOf3)) rfl ?_))))))))))))))
   refine WD.branch [15] (by kernel_rfl) rfl (WO.cons rfl ?_ (WO.nil))
   refine WL.stE I64 _ r hS (k := 0) rfl (.of rfl) (.of rfl) rfl rfl Tryz.sizeOf3 (by omega) (by (try rw [List.length_set]); omega) ?_
   clear hS; intro w hS; dsimp only [List.set] at hS
   refine .nil ?_
   refine And.intro (by intro h; cases h) ?_
   refine .takeP (i := 16) rfl (by kernel_rfl) (by kernel_rfl) (by kernel_rfl) (fun w => (.indexAddr (.of rfl) (.of rfl) (by omega) (by omega) Tryz.underlying195 Tryz.sizeOf3)) rfl ?_
   refine WD.branch [17] (by kernel_rfl) rfl (WO.cons rfl ?_ (WO.nil))
   refine WL.stE I64 _ r hS (k := 0) rfl (.of rfl) (.of rfl) rfl rfl Tryz.sizeOf3 (by omega) (by (try rw [List.length_set]); omega) ?_
   clear hS; intro w hS; dsimp only [List.set] at hS
   refine .nil ?_
   refine And.intro (by intro h; cases h) ?_
   refine .done (by kernel_rfl) (.region (.run 3 rfl ⟨⟨by omega, by omega⟩, trivial⟩ (.nil ?_)))
   obtain ⟨U3, q, rfl⟩ := Srt.concat_of (U := U1) (by omega)
   have e1 : D = (F ++ U3) ++ q :: x :: (U2 ++ (T ++ C)) := by rw [hD]; simp only [List.append_assoc, List.cons_append, List.nil_append]
   have hq : D.getD (j - 1).toNat 0 = q := by
    have := Srt.at_app (F ++ U3) (x :: (U2 ++ (T ++ C))) q
    rw [show (F ++ U3).length = (j - 1).toNat by rw [List.length_append]; simp only [List.length_append, List.length_cons, List.length_nil] at hj; omega] at this
    rw [e1]; exact this
   have hbq : Srt.bef (kx l) x q := by
    have h := Srt.cmpv_neg.1 hc34.2
    rw [hx1, hq] at h
    exact (Srt.bef_later (hlt q (by simp))).2 h
   have e := Srt.swp_adj (F ++ U3) (U2 ++ (T ++ C)) q x
   rw [← e1, show (F ++ U3).length = (j - 1).toNat by rw [List.length_append]; simp only [List.length_append, List.length_cons, List.length_nil] at hj; omega, show (j - 1).toNat + 1 = j.toNat by omega, Srt.swp_comm (by omega)] at e
   unfold Srt.swp at e
   rw [e] at hS
   refine ⟨(j - 1, U3, q :: U2), ⟨rfl, rfl, rfl, rfl, rfl, rfl, trivial⟩, ⟨by simp only [List.length_append, List.length_cons, List.length_nil] at hj; (try dsimp only); omega, by simpa using hs, ?_, by simpa using hp2, ?_⟩, by simp⟩
   ·intro u hu
    rcases List.mem_cons.1 hu with rfl | hu
    ·exact hbq
    ·exact hb2 u hu
   ·rw [List.append_assoc] at hS; exact hS
  have hc34 := hb34; try simp only [Gk.cs0] at hc34
  refine .exit (.region (.run 3 rfl ⟨⟨by omega, by omega⟩, trivial⟩ (.nil ?_)))
  have hLQ : ∀ u ∈ U1, Srt.bef (kx l) u x := by
   intro u hu
   obtain ⟨U3, q, rfl⟩ := Srt.concat_of (U := U1) (List.length_pos_of_mem hu)
   have e1 : D = (F ++ U3) ++ q :: x :: (U2 ++ (T ++ C)) := by rw [hD]; simp only [List.append_assoc, List.cons_append, List.nil_append]
   have hq : D.getD (j - 1).toNat 0 = q := by
    have := Srt.at_app (F ++ U3) (x :: (U2 ++ (T ++ C))) q
    rw [show (F ++ U3).length = (j - 1).toNat by rw [List.length_append]; simp only [List.length_append, List.length_cons, List.length_nil] at hj; omega] at this
    rw [e1]; exact this
   simp only [List.length_append, List.length_cons, List.length_nil] at hj
   have h34 : ¬ (Srt.cmpv (kx l) (D.getD j.toNat 0) (D.getD (j - 1).toNat 0) < 0) := by
    rcases hc34 with h | h
    ·omega
    ·omega
   rw [Srt.cmpv_neg, hx1, hq] at h34
   exact Srt.so_last (List.pairwise_append.1 hs).1 (Srt.not_bef_later (hlt q (by simp)) h34) u hu
  have hU : Srt.So (kx l) (U1 ++ x :: U2) := Srt.so_insert hs (hLQ) hb2
  refine ⟨(i + 1, U1 ++ x :: U2, T), ⟨rfl, rfl, rfl, rfl, rfl, trivial⟩, ⟨by simp only [List.length_append, List.length_cons]; have := hp2.length_eq; rw [List.length_append] at this; omega, fun h => by simp at h, hU, ?_, (List.pairwise_cons.1 hT).2, ?_, ?_⟩, by simp⟩
  ·intro u hu t ht
   have h1 : u ∈ U1 ++ U2 ∨ u = x := by
    rcases List.mem_append.1 hu with h | h
    ·exact .inl (List.mem_append_left _ h)
    ·rcases List.mem_cons.1 h with h | h
     ·exact .inr h
     ·exact .inl (List.mem_append_right _ h)
   rcases h1 with h1 | rfl
   ·exact hc u (hp2.mem_iff.1 h1) t (List.mem_cons_of_mem _ ht)
   ·exact (List.pairwise_cons.1 hT).1 t ht
  ·refine List.Perm.trans ?_ hP
   refine List.Perm.trans (List.Perm.append_right T List.perm_middle) ?_
   rw [List.cons_append]
   refine List.Perm.trans (List.Perm.cons x (hp2.append_right T)) ?_
   exact List.perm_middle.symm
  ·rw [hD] at hS
   have e : F ++ (U1 ++ x :: (U2 ++ (T ++ C))) = F ++ ((U1 ++ x :: U2) ++ (T ++ C)) := by simp only [List.append_assoc, List.cons_append]
   rw [e] at hS; exact hS
 have hc14 := hb14; try simp only [Gk.cs0] at hc14
 refine .exit (end0 Tryz.results218 ?_)
 have hT0 : T = [] := by
  refine List.eq_nil_of_length_eq_zero ?_
  rcases Nat.eq_zero_or_pos M.length with h | h
  ·have := hMT (List.eq_nil_of_length_eq_zero h); rw [this]; rfl
  ·omega
 subst hT0
 rw [List.append_nil] at hP
 exact ⟨_, rfl, rfl, M, hP, hM, by simpa using hS⟩
theorem ins_at {l : List Nat} {p : Addr} {I : Im} (hx : Cx I l p) (F R C : List Int) (hR : R.Pairwise (· < ·)) (hin : ∀ x ∈ R, 0 ≤ x ∧ x < (l.length : Int)) (b0 n c : Nat) (r : List Value) (ia ib : Int) (hia : ia = F.length) (hib : ib = F.length + R.length) (hn : ib ≤ n) (hbb : F.length + R.length + C.length ≤ 1000000) (B w : World) (As : List Assn) (hS : Sat B w I (blk b0 ((F ++ (R ++ C)).map I64 ++ r) 3 :: As)) :
  Calls Tryz.prog 218 [.slice (some (ad b0 0)) n c, I64 ia, I64 ib, CF p].toArray w (Ret fun v w' => v = .tuple #[] ∧ ∃ M, M.Perm R ∧ Srt.So (kx l) M ∧ Sat B w' I (blk b0 ((F ++ (M ++ C)).map I64 ++ r) 3 :: As)) := by
 subst hia
 exact ins_any hx F R C hR hin b0 n c r ib hib hn hbb B w As hS
end Go.Proofs.YtadhiihnnkcagaaGreatDoor
namespace Go.Proofs.YtadhiihnnkcagaaGreatDoor
open Gk Rk
set_option linter.unusedVariables false
set_option linter.unusedSimpArgs false
theorem rot_any (F X Y C : List Int) (hX0 : 0 < X.length) (hY0 : 0 < Y.length) (cv : Value) (b0 n c : Nat) (r : List Value) (ia im ib : Int) (hia : ia = F.length) (him : im = F.length + X.length) (hib : ib = F.length + X.length + Y.length) (hn : ib ≤ n) (hbb : F.length + (X.length + (Y.length + C.length)) ≤ 1000000) (B w : World) (I : Im) (As : List Assn) (hS : Sat B w I (blk b0 ((F ++ (X ++ (Y ++ C))).map I64 ++ r) 3 :: As)) :
  Calls Tryz.prog 232 [.slice (some (ad b0 0)) n c, I64 ia, I64 im, I64 ib, cv].toArray w (Ret fun v w' => v = .tuple #[] ∧ Sat B w' I (blk b0 ((F ++ (Y ++ (X ++ C))).map I64 ++ r) 3 :: As)) := by
 refine calls Tryz.func232 rfl Tryz.ntmps232 rfl (.seq (.region (.run 4 rfl ⟨⟨by omega, by omega⟩, trivial⟩ (.nil (.seq (.region (.run 4 rfl ⟨⟨by omega, by omega⟩, trivial⟩ (.nil (.seq (.block ?_))))))))))
 refine WC.loop (σ := Int × Int × List Int × List Int × List Int × List Int) (fun ⟨i, j, F1, X1, Y1, C1⟩ => [(0, .slice (some (ad b0 0)) n c), (2, I64 im), (4, cv), (10, I64 i), (11, I64 j)]) (fun ⟨i, j, F1, X1, Y1, C1⟩ w => F1 ++ (Y1 ++ (X1 ++ C1)) = F ++ (Y ++ (X ++ C)) ∧ i = X1.length ∧ j = Y1.length ∧ 0 < X1.length ∧ 0 < Y1.length ∧ F1.length + X1.length = F.length + X.length ∧ X1.length + Y1.length ≤ X.length + Y.length ∧ Y1.length ≤ Y.length ∧ Sat B w I (blk b0 ((F1 ++ (X1 ++ (Y1 ++ C1))).map I64 ++ r) 3 :: As)) (fun ⟨i, j, F1, X1, Y1, C1⟩ => X1.length + Y1.length) (im - ia, ib - im, F, X, Y, C) ⟨rfl, rfl, rfl, rfl, rfl, trivial⟩ ⟨rfl, by (try dsimp only); omega, by (try dsimp only); omega, hX0, hY0, rfl, Nat.le_refl _, Nat.le_refl _, hS⟩ ?_
 rintro ⟨i, j, F1, X1, Y1, C1⟩ w ⟨hG, hi, hj, hx0, hy0, hFX, hXY, hYY, hS⟩
 change WC _ _ _ _ [(0, .slice (some (ad b0 0)) n c), (2, I64 im), (4, cv), (10, I64 i), (11, I64 j)] w
 have hGl := congrArg List.length hG
 simp only [List.length_append] at hGl
 refine .seq (.seq (.region (.run 3 rfl trivial (.nil ?_))))
 refine WC.cond rfl (fun hb20 => ?_) (fun hb20 => ?_)
 ·
  have hc20 := hb20; try simp only [Gk.cs0] at hc20
  refine .skip (.block (.seq (.region (.run 3 rfl trivial (.nil ?_)))))
  refine WC.cond rfl (fun hb23 => ?_) (fun hb23 => ?_)
  ·
   have hc23 := hb23; try simp only [Gk.cs0] at hc23
   refine .seq (.region (.run 7 rfl ⟨⟨by omega, by omega⟩, trivial⟩ ?_))
   obtain ⟨Xa, Xb, rfl, hXa⟩ : ∃ Xa Xb, X1 = Xa ++ Xb ∧ Xa.length = Y1.length := ⟨X1.take Y1.length, X1.drop Y1.length, (List.take_append_drop _ _).symm, by rw [List.length_take]; omega⟩
   simp only [List.length_append] at hi hx0 hFX hXY hGl
   rw [List.append_assoc] at hS
   refine .call Tryz.func243 rfl (evs_cons (.of rfl) (evs_cons (.of rfl) (evs_cons (.of rfl) (evs_cons (.of rfl) (evs_cons (.of rfl) evs_nil))))) rfl (swapRange_at F1 Xa Xb Y1 C1 (by omega) cv b0 n c r _ _ _ (by omega) (by omega) (by omega) (by omega) (by omega) B w I As hS) ?_
   clear hS
   rintro _ w ⟨rfl, hS⟩
   refine .nil (.region (.run 4 rfl ⟨⟨by omega, by omega⟩, trivial⟩ (.nil ?_)))
   refine ⟨(i - j, j, F1 ++ Y1, Xb, Xa, C1), ⟨rfl, rfl, rfl, rfl, rfl, trivial⟩, ⟨by rw [← hG]; simp only [List.append_assoc], by (try dsimp only); omega, by (try dsimp only); omega, by omega, by omega, by simp only [List.length_append]; omega, by omega, by omega, ?_⟩, by (try dsimp only); simp only [List.length_append]; omega⟩
   rw [List.append_assoc]; exact hS
  have hc23 := hb23; try simp only [Gk.cs0] at hc23
  refine .seq (.region (.run 11 rfl ⟨⟨by omega, by omega⟩, ⟨by omega, by omega⟩, ⟨by omega, by omega⟩, trivial⟩ ?_))
  obtain ⟨Ya, Yb, rfl, hYb⟩ : ∃ Ya Yb, Y1 = Ya ++ Yb ∧ Yb.length = X1.length := ⟨Y1.take (Y1.length - X1.length), Y1.drop (Y1.length - X1.length), (List.take_append_drop _ _).symm, by rw [List.length_drop]; omega⟩
  simp only [List.length_append] at hj hy0 hXY hGl hYY
  rw [List.append_assoc Ya] at hS
  refine .call Tryz.func243 rfl (evs_cons (.of rfl) (evs_cons (.of rfl) (evs_cons (.of rfl) (evs_cons (.of rfl) (evs_cons (.of rfl) evs_nil))))) rfl (swapRange_at F1 X1 Ya Yb C1 (by omega) cv b0 n c r _ _ _ (by omega) (by omega) (by omega) (by omega) (by omega) B w I As hS) ?_
  clear hS
  rintro _ w ⟨rfl, hS⟩
  refine .nil (.region (.run 4 rfl ⟨⟨by omega, by omega⟩, trivial⟩ (.nil ?_)))
  refine ⟨(i, j - i, F1, Yb, Ya, X1 ++ C1), ⟨rfl, rfl, rfl, rfl, rfl, trivial⟩, ⟨by rw [← hG]; simp only [List.append_assoc], by (try dsimp only); omega, by (try dsimp only); omega, by omega, by omega, by omega, by omega, by omega, hS⟩, by (try dsimp only); simp only [List.length_append]; omega⟩
 have hc20 := hb20; try simp only [Gk.cs0] at hc20
 refine .exit (.region (.run 7 rfl ⟨⟨by omega, by omega⟩, trivial⟩ ?_))
 refine WL.call Tryz.func243 rfl (evs_cons (.of rfl) (evs_cons (.of rfl) (evs_cons (.of rfl) (evs_cons (.of rfl) (evs_cons (.of rfl) evs_nil))))) rfl (swapRange_at F1 X1 [] Y1 C1 (by omega) cv b0 n c r _ _ _ (by omega) (by simp only [List.length_nil]; omega) (by omega) (by simp only [List.length_nil]; omega) (by simp only [List.length_nil]; omega) B w I As hS) ?_
 clear hS
 rintro _ w ⟨rfl, hS⟩
 refine .nil (end0 Tryz.results232 ?_)
 rw [List.nil_append, hG] at hS
 exact ⟨_, rfl, rfl, hS⟩
set_option maxHeartbeats 1000000 in
theorem sym_any {l : List Nat} {p : Addr} {I : Im} (hx : Cx I l p) : ∀ (N : Nat) (F U V C : List Int), Srt.So (kx l) U → Srt.So (kx l) V → Srt.cross U V → (∀ x ∈ U ++ V, 0 ≤ x ∧ x < (l.length : Int)) → 0 < U.length → 0 < V.length → U.length + V.length ≤ N →
  ∀ (b0 n c : Nat) (r : List Value) (ia im ib : Int), ia = F.length → im = F.length + U.length → ib = F.length + U.length + V.length → ib ≤ n → F.length + (U.length + (V.length + C.length)) ≤ 1000000 → ∀ (B w : World) (As : List Assn), Sat B w I (blk b0 ((F ++ (U ++ (V ++ C))).map I64 ++ r) 3 :: As) →
  Calls Tryz.prog 219 [.slice (some (ad b0 0)) n c, I64 ia, I64 im, I64 ib, CF p].toArray w (Ret fun v w' => v = .tuple #[] ∧ ∃ M, M.Perm (U ++ V) ∧ Srt.So (kx l) M ∧ Sat B w' I (blk b0 ((F ++ (M ++ C)).map I64 ++ r) 3 :: As)) := by
 intro N
 induction N with
 | zero => intros; omega
 | succ N ih =>
  intro F U V C hU hV hc hin hU0 hV0 hN b0 n c r ia im ib hia him hib hn hbb B w As hS
  refine calls Tryz.func219 rfl Tryz.ntmps219 rfl (.seq (.seq ?_))
  have hUV : ∀ v ∈ U ++ V, 0 ≤ v ∧ v < (l.length : Int) := hin
  obtain ⟨D, hD⟩ : ∃ D, D = F ++ (U ++ (V ++ C)) := ⟨_, rfl⟩
  rw [← hD] at hS
  have hDl : D.length = F.length + (U.length + (V.length + C.length)) := by rw [hD]; simp only [List.length_append]
  have hin2 : ∀ q : Nat, F.length ≤ q → q < F.length + (U.length + V.length) → 0 ≤ D.getD q 0 ∧ D.getD q 0 < (l.length : Int) := fun q h1 h2 => by
   refine hUV _ ?_
   have e : D = F ++ ((U ++ V) ++ C) := by rw [hD]; simp only [List.append_assoc]
   rw [e]
   exact Srt.get_mid h1 (by rw [List.length_append]; exact h2)
  have hDU : ∀ q : Nat, q < U.length → D.getD (F.length + q) 0 = U.getD q 0 := fun q hq => by
   rw [hD, Srt.get_app2 (by omega), show F.length + q - F.length = q by omega, Srt.get_app1 hq]
  have hDV : ∀ q : Nat, q < V.length → D.getD (F.length + U.length + q) 0 = V.getD q 0 := fun q hq => by
   rw [hD, Srt.get_app2 (by omega), Srt.get_app2 (by omega), show F.length + U.length + q - F.length - U.length = q by omega, Srt.get_app1 hq]
  refine .region (.run 4 rfl ⟨⟨by omega, by omega⟩, trivial⟩ (.nil ?_))
  refine WC.cond rfl (fun hb28 => ?_) (fun hb28 => ?_)
  ·
   have hc28 := hb28; try simp only [Gk.cs0] at hc28
   refine .seq ?_
   obtain ⟨x, U0, rfl⟩ := Srt.cons_of hU0
   obtain rfl : U0 = [] := List.eq_nil_of_length_eq_zero (by simp only [List.length_cons] at him; omega)
   have hDx : D.getD ia.toNat 0 = x := by have := hDU 0 (by simp); rw [show ia.toNat = F.length + 0 by omega]; simpa using this
   simp only [List.length_cons, List.length_nil] at him hib hbb hDl hin2 hDV
   refine .region (.run 2 rfl trivial (.nil (.seq (.region (.run 2 rfl trivial (.nil (.seq (.block ?_))))))))
   refine WC.loop (σ := Int × Int) (fun ⟨i, j⟩ => [(0, .slice (some (ad b0 0)) n c), (1, I64 ia), (2, I64 im), (3, I64 ib), (4, CF p), (10, I64 i), (11, I64 j)]) (fun ⟨i, j⟩ w => im ≤ i ∧ i ≤ j ∧ j ≤ ib ∧ (i = im ∨ kx l (D.getD (i - 1).toNat 0) < kx l x) ∧ (j = ib ∨ ¬ kx l (D.getD j.toNat 0) < kx l x) ∧ Sat B w I (blk b0 ((D).map I64 ++ r) 3 :: As)) (fun ⟨i, j⟩ => (j - i).toNat) (im, ib) ⟨rfl, rfl, rfl, rfl, rfl, rfl, rfl, trivial⟩ ⟨Int.le_refl _, by (try dsimp only); omega, Int.le_refl _, .inl rfl, .inl rfl, hS⟩ ?_
   rintro ⟨i, j⟩ w ⟨hi1, hij, hj1, hb1, hb2, hS⟩
   change WC _ _ _ _ [(0, .slice (some (ad b0 0)) n c), (1, I64 ia), (2, I64 im), (3, I64 ib), (4, CF p), (10, I64 i), (11, I64 j)] w
   refine .seq (.seq (.region (.run 3 rfl trivial (.nil ?_))))
   refine WC.cond rfl (fun hb33 => ?_) (fun hb33 => ?_)
   ·
    have hc33 := hb33; try simp only [Gk.cs0] at hc33
    refine .skip (.block (.seq (.region (.run 3 rfl ⟨⟨by omega, by omega⟩, trivial⟩ ?_))))
    refine WL.val (.cvi (.of rfl) Tryz.underlying3 Tryz.underlying238 (by rw [IntKind.wrap_u64]; omega)) rfl ?_
    refine .val (.shr1 (.of rfl) (.of rfl) (by decide)) rfl ?_
    refine WL.val (.cvi (.of rfl) Tryz.underlying238 Tryz.underlying3 (by rw [IntKind.wrap_i64]; omega)) rfl ?_
    refine .run 1 rfl trivial (.nil (.seq (.quiet (by kernel_rfl) (by kernel_rfl) hS (.val (fun w hS => (.move (.of rfl))) rfl (.val (fun w hS => (.move (.of rfl))) rfl (.val (fun w hS => (.move (.of rfl))) rfl (.val (fun w hS => (.indexAddr (.of rfl) (.of rfl) (by omega) (by omega) Tryz.underlying195 Tryz.sizeOf3)) rfl (.val (fun w hS => .ldE I64 D 0 r (i := ((i + j) / 2)) (.of rfl) hS (k := 0) rfl rfl Tryz.isAgg3 (by omega) (by omega)) rfl (.val (fun w hS => (.move (.of rfl))) rfl (.val (fun w hS => (.move (.of rfl))) rfl (.val (fun w hS => (.indexAddr (.of rfl) (.of rfl) (by omega) (by omega) Tryz.underlying195 Tryz.sizeOf3)) rfl (.val (fun w hS => .ldE I64 D 0 r (i := ia) (.of rfl) hS (k := 0) rfl rfl Tryz.isAgg3 (by omega) (by omega)) rfl ?_))))))))))))
    refine WQ.vcall Tryz.func171 rfl (.of rfl) (evs_cons (.of rfl) (evs_cons (.of rfl) evs_nil)) rfl (fun w hS => by have hj1 := hin2 (((i + j) / 2)).toNat (by omega) (by omega); have hj2 := hin2 (ia).toNat (by omega) (by omega); exact cmp_any hx _ _ hj1.1 hj1.2 hj2.1 hj2.2 B w _ hS) ?_
    refine .val (fun w hS => (.lss (.of rfl) (.of rfl))) rfl (.nil ?_)
    clear hS; intro w hS
    refine WC.cond rfl (fun hb50 => ?_) (fun hb50 => ?_)
    ·
     have hc50 := hb50; try simp only [Gk.cs0] at hc50
     refine .region (.run 3 rfl ⟨⟨by omega, by omega⟩, trivial⟩ (.nil ?_))
     have h9 := Srt.cmpv_neg.1 hc50
     rw [hDx] at h9
     exact ⟨((i + j) / 2 + 1, j), ⟨rfl, rfl, rfl, rfl, rfl, rfl, rfl, trivial⟩, ⟨by (try dsimp only); omega, by (try dsimp only); omega, hj1, .inr (by (try dsimp only); rw [show (i + j) / 2 + 1 - 1 = (i + j) / 2 by omega]; exact h9), hb2, hS⟩, by (try dsimp only); omega⟩
    have hc50 := hb50; try simp only [Gk.cs0] at hc50
    refine .region (.run 2 rfl trivial (.nil ?_))
    have h9 : ¬ _ := fun h => (Int.not_lt.2 hc50) (Srt.cmpv_neg.2 h)
    rw [hDx] at h9
    exact ⟨(i, (i + j) / 2), ⟨rfl, rfl, rfl, rfl, rfl, rfl, rfl, trivial⟩, ⟨hi1, by (try dsimp only); omega, by (try dsimp only); omega, hb1, .inr h9, hS⟩, by (try dsimp only); omega⟩
   have hc33 := hb33; try simp only [Gk.cs0] at hc33
   refine .exit (.seq (.seq ?_))
   have hij : i = j := by omega
   subst hij
   have hiV : (i - im).toNat ≤ V.length := by omega
   have hso : Srt.So (kx l) (V.take (i - im).toNat ++ x :: V.drop (i - im).toNat) := by
    refine Srt.so_left hV (fun v hv => hc x (by simp) v hv) hiV ?_ ?_
    ·by_cases hz : i = im
     ·exact .inl (by omega)
     ·refine .inr ?_
      have h := hb1.resolve_left hz
      rw [← hDV ((i - im).toNat - 1) (by omega), show F.length + (0 + 1) + ((i - im).toNat - 1) = (i - 1).toNat by omega]
      exact h
    ·by_cases hz : i = ib
     ·exact .inl (by omega)
     ·refine .inr ?_
      have h := hb2.resolve_left hz
      rw [← hDV (i - im).toNat (by omega), show F.length + (0 + 1) + (i - im).toNat = i.toNat by omega]
      exact h
   obtain ⟨Va, Vb, hVab, hVal, hso2⟩ : ∃ Va Vb, V = Va ++ Vb ∧ (Va.length : Int) = i - im ∧ Srt.So (kx l) (Va ++ x :: Vb) := ⟨_, _, (List.take_append_drop (i - im).toNat V).symm, by rw [List.length_take]; omega, hso⟩
   refine .region (.run 2 rfl trivial (.nil (.block ?_)))
   refine WC.loop (σ := Int × List Int × List Int) (fun ⟨k, Vc, Vd⟩ => [(0, .slice (some (ad b0 0)) n c), (10, I64 i), (13, I64 k)]) (fun ⟨k, Vc, Vd⟩ w => k = (F.length : Int) + Vc.length ∧ Vc ++ Vd = Va ∧ Sat B w I (blk b0 ((F ++ (Vc ++ x :: (Vd ++ (Vb ++ C)))).map I64 ++ r) 3 :: As)) (fun ⟨k, Vc, Vd⟩ => Vd.length) (ia, [], Va) ⟨rfl, rfl, rfl, trivial⟩ ⟨by simp only [List.length_nil]; omega, rfl, by rw [hD, hVab] at hS; simpa using hS⟩ ?_
   rintro ⟨k, Vc, Vd⟩ w ⟨hk, hcd, hS⟩
   change WC _ _ _ _ [(0, .slice (some (ad b0 0)) n c), (10, I64 i), (13, I64 k)] w
   have hcl := congrArg List.length hcd
   rw [List.length_append] at hcl
   have hVl := congrArg List.length hVab
   rw [List.length_append] at hVl
   obtain ⟨E, hE⟩ : ∃ E, E = F ++ (Vc ++ x :: (Vd ++ (Vb ++ C))) := ⟨_, rfl⟩
   rw [← hE] at hS
   have hEl : E.length = F.length + (Vc.length + 1 + Vd.length + (Vb.length + C.length)) := by rw [hE]; simp only [List.length_append, List.length_cons]; omega
   refine .seq (.seq (.region (.run 4 rfl ⟨⟨by omega, by omega⟩, trivial⟩ (.nil ?_))))
   refine WC.cond rfl (fun hb58 => ?_) (fun hb58 => ?_)
   ·
    have hc58 := hb58; try simp only [Gk.cs0] at hc58
    refine .skip (.seq (.block (.drawn (fun w => ∃ R, Sat B w I (blk b0 ((E).map I64 ++ r) 3 :: R)) (fun j => !([15, 17].contains j)) (by kernel_rfl) ?_)))
    replace hS := hS.drew; generalize w.drew = w at hS ⊢
    have hH : ∃ R, Sat B w I (blk b0 ((E).map I64 ++ r) 3 :: R) := ⟨_, (hS.pick 0 rfl)⟩
    refine .takeP (i := 0) rfl (by kernel_rfl) (by kernel_rfl) (by kernel_rfl) (fun w => (.move (.of rfl))) rfl (.takeP (i := 1) rfl (by kernel_rfl) (by kernel_rfl) (by kernel_rfl) (fun w => (.move (.of rfl))) rfl (.takeP (i := 2) rfl (by kernel_rfl) (by kernel_rfl) (by kernel_rfl) (fun w => (.move (.of rfl))) rfl (.takeP (i := 3) rfl (by kernel_rfl) (by kernel_rfl) (by kernel_rfl) (fun w => (.move (.of rfl))) rfl (.takeP (i := 4) rfl (by kernel_rfl) (by kernel_rfl) (by kernel_rfl) (fun w => (.add (.of rfl) (.of rfl) ⟨by omega, by omega⟩)) rfl (.takeP (i := 5) rfl (by kernel_rfl) (by kernel_rfl) (by kernel_rfl) (fun w => (.move (.of rfl))) rfl (.takeP (i := 6) rfl (by kernel_rfl) (by kernel_rfl) (by kernel_rfl) (fun w => (.move (.of rfl))) rfl (.takeP (i := 7) rfl (by kernel_rfl) (by kernel_rfl) (by kernel_rfl) (fun w => (.add (.of rfl) (.of rfl) ⟨by omega, by omega⟩)) rfl (.takeP (i := 8) rfl (by kernel_rfl) (by kernel_rfl) (by kernel_rfl) (fun w => (.indexAddr (.of rfl) (.of rfl) (by omega) (by omega) Tryz.underlying195 Tryz.sizeOf3)) rfl (.take (i := 9) rfl (by kernel_rfl) (by kernel_rfl) (by kernel_rfl) (by kernel_rfl) hH (fun w ⟨R, hS⟩ => .ldE I64 E 0 r (i := k + 1) (.of rfl) hS (k := 0) rfl rfl Tryz.isAgg3 (by omega) (by omega)) rfl (.takeP (i := 10) rfl (by kernel_rfl) (by kernel_rfl) (by kernel_rfl) (fun w => (.move (.of rfl))) rfl (.takeP (i := 11) rfl (by kernel_rfl) (by kernel_rfl) (by kernel_rfl) (fun w => (.move (.of rfl))) rfl (.takeP (i := 12) rfl (by kernel_rfl) (by kernel_rfl) (by kernel_rfl) (fun w => (.indexAddr (.of rfl) (.of rfl) (by omega) (by omega) Tryz.underlying195 Tryz.sizeOf3)) rfl (.take (i := 13) rfl (by kernel_rfl) (by kernel_rfl) (by kernel_rfl) (by kernel_rfl) hH (fun w ⟨R, hS⟩ => .ldE I64 E 0 r (i := k) (.of rfl) hS (k := 0) rfl rfl Tryz.isAgg3 (by omega) (by omega)) rfl (.takeP (i := 14) rfl (by kernel_rfl) (by kernel_rfl) (by kernel_rfl) (fun w => (.indexAddr (.of rfl) (.of rfl) (by omega) (by omega) Tryz.underlying195 Tryz.sizeOf3)) rfl ?_))))))))))))))
    refine WD.branch [15] (by kernel_rfl) rfl (WO.cons rfl ?_ (WO.nil))
    refine WL.stE I64 _ r hS (k := 0) rfl (.of rfl) (.of rfl) rfl rfl Tryz.sizeOf3 (by omega) (by (try rw [List.length_set]); omega) ?_
    clear hS; intro w hS; dsimp only [List.set] at hS
    refine .nil ?_
    refine And.intro (by intro h; cases h) ?_
    refine .takeP (i := 16) rfl (by kernel_rfl) (by kernel_rfl) (by kernel_rfl) (fun w => (.indexAddr (.of rfl) (.of rfl) (by omega) (by omega) Tryz.underlying195 Tryz.sizeOf3)) rfl ?_
    refine WD.branch [17] (by kernel_rfl) rfl (WO.cons rfl ?_ (WO.nil))
    refine WL.stE I64 _ r hS (k := 0) rfl (.of rfl) (.of rfl) rfl rfl Tryz.sizeOf3 (by omega) (by (try rw [List.length_set]); omega) ?_
    clear hS; intro w hS; dsimp only [List.set] at hS
    refine .nil ?_
    refine And.intro (by intro h; cases h) ?_
    refine .done (by kernel_rfl) (.region (.run 3 rfl ⟨⟨by omega, by omega⟩, trivial⟩ (.nil ?_)))
    obtain ⟨y, Ve, rfl⟩ := Srt.cons_of (U := Vd) (by omega)
    have e1 : E = (F ++ Vc) ++ x :: y :: (Ve ++ (Vb ++ C)) := by rw [hE]; simp only [List.append_assoc, List.cons_append]
    have e := Srt.swp_adj (F ++ Vc) (Ve ++ (Vb ++ C)) x y
    rw [← e1, show (F ++ Vc).length = k.toNat by rw [List.length_append]; omega, show k.toNat + 1 = (k + 1).toNat by omega] at e
    unfold Srt.swp at e
    rw [e] at hS
    refine ⟨(k + 1, Vc ++ [y], Ve), ⟨rfl, rfl, rfl, trivial⟩, ⟨by simp only [List.length_append, List.length_cons, List.length_nil]; omega, by rw [← hcd]; simp, ?_⟩, by simp⟩
    have e2 : F ++ ((Vc ++ [y]) ++ x :: (Ve ++ (Vb ++ C))) = (F ++ Vc) ++ y :: x :: (Ve ++ (Vb ++ C)) := by simp only [List.append_assoc, List.cons_append, List.nil_append]
    rw [e2]; exact hS
   have hc58 := hb58; try simp only [Gk.cs0] at hc58
   refine .exit (.ret (ret0 Tryz.results219 ?_))
   have hd0 : Vd = [] := List.eq_nil_of_length_eq_zero (by have := congrArg List.length hVab; rw [List.length_append] at this; omega)
   subst hd0
   rw [List.append_nil] at hcd
   rw [hE, hcd] at hS
   refine ⟨_, rfl, rfl, Va ++ x :: Vb, ?_, hso2, by simpa using hS⟩
   rw [hVab]
   exact List.perm_middle
  have hc28 := hb28; try simp only [Gk.cs0] at hc28
  refine .skip (.seq (.seq (.region (.run 4 rfl ⟨⟨by omega, by omega⟩, trivial⟩ (.nil ?_)))))
  refine WC.cond rfl (fun hb80 => ?_) (fun hb80 => ?_)
  ·
   have hc80 := hb80; try simp only [Gk.cs0] at hc80
   refine .seq ?_
   obtain ⟨y, V0, rfl⟩ := Srt.cons_of hV0
   obtain rfl : V0 = [] := List.eq_nil_of_length_eq_zero (by simp only [List.length_cons] at hib; omega)
   have hDy : D.getD im.toNat 0 = y := by have := hDV 0 (by simp); rw [show im.toNat = F.length + U.length + 0 by omega]; simpa using this
   simp only [List.length_cons, List.length_nil] at hib hbb hDl hin2
   refine .region (.run 2 rfl trivial (.nil (.seq (.region (.run 2 rfl trivial (.nil (.seq (.block ?_))))))))
   refine WC.loop (σ := Int × Int) (fun ⟨i, j⟩ => [(0, .slice (some (ad b0 0)) n c), (1, I64 ia), (2, I64 im), (3, I64 ib), (4, CF p), (14, I64 i), (15, I64 j)]) (fun ⟨i, j⟩ w => ia ≤ i ∧ i ≤ j ∧ j ≤ im ∧ (i = ia ∨ ¬ kx l y < kx l (D.getD (i - 1).toNat 0)) ∧ (j = im ∨ kx l y < kx l (D.getD j.toNat 0)) ∧ Sat B w I (blk b0 ((D).map I64 ++ r) 3 :: As)) (fun ⟨i, j⟩ => (j - i).toNat) (ia, im) ⟨rfl, rfl, rfl, rfl, rfl, rfl, rfl, trivial⟩ ⟨Int.le_refl _, by (try dsimp only); omega, Int.le_refl _, .inl rfl, .inl rfl, hS⟩ ?_
   rintro ⟨i, j⟩ w ⟨hi1, hij, hj1, hb1, hb2, hS⟩
   change WC _ _ _ _ [(0, .slice (some (ad b0 0)) n c), (1, I64 ia), (2, I64 im), (3, I64 ib), (4, CF p), (14, I64 i), (15, I64 j)] w
   refine .seq (.seq (.region (.run 3 rfl trivial (.nil ?_))))
   refine WC.cond rfl (fun hb85 => ?_) (fun hb85 => ?_)
   ·
    have hc85 := hb85; try simp only [Gk.cs0] at hc85
    refine .skip (.block (.seq (.region (.run 3 rfl ⟨⟨by omega, by omega⟩, trivial⟩ ?_))))
    refine WL.val (.cvi (.of rfl) Tryz.underlying3 Tryz.underlying238 (by rw [IntKind.wrap_u64]; omega)) rfl ?_
    refine .val (.shr1 (.of rfl) (.of rfl) (by decide)) rfl ?_
    refine WL.val (.cvi (.of rfl) Tryz.underlying238 Tryz.underlying3 (by rw [IntKind.wrap_i64]; omega)) rfl ?_
    refine .run 1 rfl trivial (.nil (.seq (.quiet (by kernel_rfl) (by kernel_rfl) hS (.val (fun w hS => (.move (.of rfl))) rfl (.val (fun w hS => (.move (.of rfl))) rfl (.val (fun w hS => (.move (.of rfl))) rfl (.val (fun w hS => (.indexAddr (.of rfl) (.of rfl) (by omega) (by omega) Tryz.underlying195 Tryz.sizeOf3)) rfl (.val (fun w hS => .ldE I64 D 0 r (i := im) (.of rfl) hS (k := 0) rfl rfl Tryz.isAgg3 (by omega) (by omega)) rfl (.val (fun w hS => (.move (.of rfl))) rfl (.val (fun w hS => (.move (.of rfl))) rfl (.val (fun w hS => (.indexAddr (.of rfl) (.of rfl) (by omega) (by omega) Tryz.underlying195 Tryz.sizeOf3)) rfl (.val (fun w hS => .ldE I64 D 0 r (i := ((i + j) / 2)) (.of rfl) hS (k := 0) rfl rfl Tryz.isAgg3 (by omega) (by omega)) rfl ?_))))))))))))
    refine WQ.vcall Tryz.func171 rfl (.of rfl) (evs_cons (.of rfl) (evs_cons (.of rfl) evs_nil)) rfl (fun w hS => by have hj1 := hin2 (im).toNat (by omega) (by omega); have hj2 := hin2 (((i + j) / 2)).toNat (by omega) (by omega); exact cmp_any hx _ _ hj1.1 hj1.2 hj2.1 hj2.2 B w _ hS) ?_
    refine .val (fun w hS => (.lss (.of rfl) (.of rfl))) rfl (.val (fun w hS => (.not (.of rfl))) rfl (.nil ?_))
    clear hS; intro w hS
    refine WC.cond rfl (fun hb103 => ?_) (fun hb103 => ?_)
    ·
     have hc103 := hb103; try simp only [Gk.cs0] at hc103
     refine .region (.run 3 rfl ⟨⟨by omega, by omega⟩, trivial⟩ (.nil ?_))
     have h9 : ¬ _ := fun h => (Int.not_lt.2 hc103) (Srt.cmpv_neg.2 h)
     rw [hDy] at h9
     exact ⟨((i + j) / 2 + 1, j), ⟨rfl, rfl, rfl, rfl, rfl, rfl, rfl, trivial⟩, ⟨by (try dsimp only); omega, by (try dsimp only); omega, hj1, .inr (by (try dsimp only); rw [show (i + j) / 2 + 1 - 1 = (i + j) / 2 by omega]; exact h9), hb2, hS⟩, by (try dsimp only); omega⟩
    have hc103 := hb103; try simp only [Gk.cs0] at hc103
    refine .region (.run 2 rfl trivial (.nil ?_))
    have h9 := Srt.cmpv_neg.1 hc103
    rw [hDy] at h9
    exact ⟨(i, (i + j) / 2), ⟨rfl, rfl, rfl, rfl, rfl, rfl, rfl, trivial⟩, ⟨hi1, by (try dsimp only); omega, by (try dsimp only); omega, hb1, .inr h9, hS⟩, by (try dsimp only); omega⟩
   have hc85 := hb85; try simp only [Gk.cs0] at hc85
   refine .exit (.seq (.seq ?_))
   have hij : i = j := by omega
   subst hij
   have hso : Srt.So (kx l) (U.take (i - ia).toNat ++ y :: U.drop (i - ia).toNat) := by
    refine Srt.so_right hU (fun v hv => hc v hv y (by simp)) (by omega) ?_ ?_
    ·by_cases hz : i = ia
     ·exact .inl (by omega)
     ·refine .inr ?_
      have h := hb1.resolve_left hz
      rw [← hDU ((i - ia).toNat - 1) (by omega), show F.length + ((i - ia).toNat - 1) = (i - 1).toNat by omega]
      exact h
    ·by_cases hz : i = im
     ·exact .inl (by omega)
     ·refine .inr ?_
      have h := hb2.resolve_left hz
      rw [← hDU (i - ia).toNat (by omega), show F.length + (i - ia).toNat = i.toNat by omega]
      exact h
   obtain ⟨Ua, Ub, hUab, hUal, hso2⟩ : ∃ Ua Ub, U = Ua ++ Ub ∧ (Ua.length : Int) = i - ia ∧ Srt.So (kx l) (Ua ++ y :: Ub) := ⟨_, _, (List.take_append_drop (i - ia).toNat U).symm, by rw [List.length_take]; omega, hso⟩
   have hUl := congrArg List.length hUab
   rw [List.length_append] at hUl
   refine .region (.run 2 rfl trivial (.nil (.block ?_)))
   refine WC.loop (σ := Int × List Int × List Int) (fun ⟨k, Uc, Ud⟩ => [(0, .slice (some (ad b0 0)) n c), (14, I64 i), (17, I64 k)]) (fun ⟨k, Uc, Ud⟩ w => k = (F.length : Int) + Ua.length + Uc.length ∧ Uc ++ Ud = Ub ∧ Sat B w I (blk b0 ((F ++ (Ua ++ (Uc ++ y :: (Ud ++ C)))).map I64 ++ r) 3 :: As)) (fun ⟨k, Uc, Ud⟩ => Uc.length) (im, Ub, []) ⟨rfl, rfl, rfl, trivial⟩ ⟨by (try dsimp only); omega, by simp, by rw [hD, hUab] at hS; simpa using hS⟩ ?_
   rintro ⟨k, Uc, Ud⟩ w ⟨hk, hcd, hS⟩
   change WC _ _ _ _ [(0, .slice (some (ad b0 0)) n c), (14, I64 i), (17, I64 k)] w
   have hcl := congrArg List.length hcd
   rw [List.length_append] at hcl
   obtain ⟨E, hE⟩ : ∃ E, E = F ++ (Ua ++ (Uc ++ y :: (Ud ++ C))) := ⟨_, rfl⟩
   rw [← hE] at hS
   have hEl : E.length = F.length + (Ua.length + (Uc.length + 1 + Ud.length + C.length)) := by rw [hE]; simp only [List.length_append, List.length_cons]; omega
   refine .seq (.seq (.region (.run 3 rfl trivial (.nil ?_))))
   refine WC.cond rfl (fun hb110 => ?_) (fun hb110 => ?_)
   ·
    have hc110 := hb110; try simp only [Gk.cs0] at hc110
    refine .skip (.seq (.block (.drawn (fun w => ∃ R, Sat B w I (blk b0 ((E).map I64 ++ r) 3 :: R)) (fun j => !([15, 17].contains j)) (by kernel_rfl) ?_)))
    replace hS := hS.drew; generalize w.drew = w at hS ⊢
    have hH : ∃ R, Sat B w I (blk b0 ((E).map I64 ++ r) 3 :: R) := ⟨_, (hS.pick 0 rfl)⟩
    refine .takeP (i := 0) rfl (by kernel_rfl) (by kernel_rfl) (by kernel_rfl) (fun w => (.move (.of rfl))) rfl (.takeP (i := 1) rfl (by kernel_rfl) (by kernel_rfl) (by kernel_rfl) (fun w => (.move (.of rfl))) rfl (.takeP (i := 2) rfl (by kernel_rfl) (by kernel_rfl) (by kernel_rfl) (fun w => (.move (.of rfl))) rfl (.takeP (i := 3) rfl (by kernel_rfl) (by kernel_rfl) (by kernel_rfl) (fun w => (.move (.of rfl))) rfl (.takeP (i := 4) rfl (by kernel_rfl) (by kernel_rfl) (by kernel_rfl) (fun w => (.sub (.of rfl) (.of rfl) ⟨by omega, by omega⟩)) rfl (.takeP (i := 5) rfl (by kernel_rfl) (by kernel_rfl) (by kernel_rfl) (fun w => (.move (.of rfl))) rfl (.takeP (i := 6) rfl (by kernel_rfl) (by kernel_rfl) (by kernel_rfl) (fun w => (.move (.of rfl))) rfl (.takeP (i := 7) rfl (by kernel_rfl) (by kernel_rfl) (by kernel_rfl) (fun w => (.sub (.of rfl) (.of rfl) ⟨by omega, by omega⟩)) rfl (.takeP (i := 8) rfl (by kernel_rfl) (by kernel_rfl) (by kernel_rfl) (fun w => (.indexAddr (.of rfl) (.of rfl) (by omega) (by omega) Tryz.underlying195 Tryz.sizeOf3)) rfl (.take (i := 9) rfl (by kernel_rfl) (by kernel_rfl) (by kernel_rfl) (by kernel_rfl) hH (fun w ⟨R, hS⟩ => .ldE I64 E 0 r (i := k - 1) (.of rfl) hS (k := 0) rfl rfl Tryz.isAgg3 (by omega) (by omega)) rfl (.takeP (i := 10) rfl (by kernel_rfl) (by kernel_rfl) (by kernel_rfl) (fun w => (.move (.of rfl))) rfl (.takeP (i := 11) rfl (by kernel_rfl) (by kernel_rfl) (by kernel_rfl) (fun w => (.move (.of rfl))) rfl (.takeP (i := 12) rfl (by kernel_rfl) (by kernel_rfl) (by kernel_rfl) (fun w => (.indexAddr (.of rfl) (.of rfl) (by omega) (by omega) Tryz.underlying195 Tryz.sizeOf3)) rfl (.take (i := 13) rfl (by kernel_rfl) (by kernel_rfl) (by kernel_rfl) (by kernel_rfl) hH (fun w ⟨R, hS⟩ => .ldE I64 E 0 r (i := k) (.of rfl) hS (k := 0) rfl rfl Tryz.isAgg3 (by omega) (by omega)) rfl (.takeP (i := 14) rfl (by kernel_rfl) (by kernel_rfl) (by kernel_rfl) (fun w => (.indexAddr (.of rfl) (.of rfl) (by omega) (by omega) Tryz.underlying195 Tryz.sizeOf3)) rfl ?_))))))))))))))
    refine WD.branch [15] (by kernel_rfl) rfl (WO.cons rfl ?_ (WO.nil))
    refine WL.stE I64 _ r hS (k := 0) rfl (.of rfl) (.of rfl) rfl rfl Tryz.sizeOf3 (by omega) (by (try rw [List.length_set]); omega) ?_
    clear hS; intro w hS; dsimp only [List.set] at hS
    refine .nil ?_
    refine And.intro (by intro h; cases h) ?_
    refine .takeP (i := 16) rfl (by kernel_rfl) (by kernel_rfl) (by kernel_rfl) (fun w => (.indexAddr (.of rfl) (.of rfl) (by omega) (by omega) Tryz.underlying195 Tryz.sizeOf3)) rfl ?_
    refine WD.branch [17] (by kernel_rfl) rfl (WO.cons rfl ?_ (WO.nil))
    refine WL.stE I64 _ r hS (k := 0) rfl (.of rfl) (.of rfl) rfl rfl Tryz.sizeOf3 (by omega) (by (try rw [List.length_set]); omega) ?_
    clear hS; intro w hS; dsimp only [List.set] at hS
    refine .nil ?_
    refine And.intro (by intro h; cases h) ?_
    refine .done (by kernel_rfl) (.region (.run 3 rfl ⟨⟨by omega, by omega⟩, trivial⟩ (.nil ?_)))
    obtain ⟨Ue, q, rfl⟩ := Srt.concat_of (U := Uc) (by omega)
    simp only [List.length_append, List.length_cons, List.length_nil] at hk hEl hcl
    have e1 : E = (F ++ (Ua ++ Ue)) ++ q :: y :: (Ud ++ C) := by rw [hE]; simp only [List.append_assoc, List.cons_append, List.nil_append]
    have e := Srt.swp_adj (F ++ (Ua ++ Ue)) (Ud ++ C) q y
    rw [← e1, show (F ++ (Ua ++ Ue)).length = (k - 1).toNat by simp only [List.length_append]; omega, show (k - 1).toNat + 1 = k.toNat by omega, Srt.swp_comm (by omega)] at e
    unfold Srt.swp at e
    rw [e] at hS
    refine ⟨(k - 1, Ue, q :: Ud), ⟨rfl, rfl, rfl, trivial⟩, ⟨by (try dsimp only); omega, by rw [← hcd]; simp, ?_⟩, by simp⟩
    have e2 : F ++ (Ua ++ (Ue ++ y :: ((q :: Ud) ++ C))) = (F ++ (Ua ++ Ue)) ++ y :: q :: (Ud ++ C) := by simp only [List.append_assoc, List.cons_append]
    rw [e2]; exact hS
   have hc110 := hb110; try simp only [Gk.cs0] at hc110
   refine .exit (.ret (ret0 Tryz.results219 ?_))
   have hc0 : Uc = [] := List.eq_nil_of_length_eq_zero (by omega)
   subst hc0
   rw [List.nil_append] at hcd
   rw [hE, hcd] at hS
   refine ⟨_, rfl, rfl, Ua ++ y :: Ub, ?_, hso2, by simpa using hS⟩
   rw [hUab, List.append_assoc]
   exact List.Perm.append_left Ua (List.perm_append_comm : ([y] ++ Ub).Perm (Ub ++ [y]))
  have hc80 := hb80; try simp only [Gk.cs0] at hc80
  refine .skip (.seq (.region (.run 3 rfl ⟨⟨by omega, by omega⟩, trivial⟩ ?_)))
  refine WL.val (.cvi (.of rfl) Tryz.underlying3 Tryz.underlying238 (by rw [IntKind.wrap_u64]; omega)) rfl ?_
  refine .val (.shr1 (.of rfl) (.of rfl) (by decide)) rfl ?_
  refine WL.val (.cvi (.of rfl) Tryz.underlying238 Tryz.underlying3 (by rw [IntKind.wrap_i64]; omega)) rfl ?_
  refine .run 1 rfl trivial (.nil (.seq (.region (.run 4 rfl ⟨⟨by omega, by omega⟩, trivial⟩ (.nil (.seq (.region (.run 2 rfl trivial (.nil ?_)))))))))
  refine WC.cutS (σ := Int × Int) (fun ⟨s0, r0⟩ => [(0, .slice (some (ad b0 0)) n c), (1, I64 ia), (2, I64 im), (3, I64 ib), (4, CF p), (18, I64 ((ia + ib) / 2)), (19, I64 (((ia + ib) / 2) + im)), (20, I64 s0), (21, I64 r0)]) (fun ⟨s0, r0⟩ w => ((((ia + ib) / 2) < im ∧ s0 = ((ia + ib) / 2) + im - ib ∧ r0 = ((ia + ib) / 2)) ∨ (im ≤ ((ia + ib) / 2) ∧ s0 = ia ∧ r0 = im)) ∧ Sat B w I (blk b0 ((D).map I64 ++ r) 3 :: As)) ?_ ?_
  ·
   refine .seq (.region (.run 3 rfl trivial (.nil ?_)))
   refine WC.cond rfl (fun hb140 => ?_) (fun hb140 => ?_)
   ·
    have hc140 := hb140; try simp only [Gk.cs0] at hc140
    refine .seq (.region (.run 4 rfl ⟨⟨by omega, by omega⟩, trivial⟩ (.nil (.region (.run 2 rfl trivial (.nil ?_))))))
    exact ⟨(((ia + ib) / 2) + im - ib, ((ia + ib) / 2)), ⟨rfl, rfl, rfl, rfl, rfl, rfl, rfl, rfl, rfl, trivial⟩, .inl ⟨hc140, rfl, rfl⟩, hS⟩
   have hc140 := hb140; try simp only [Gk.cs0] at hc140
   refine .seq (.region (.run 2 rfl trivial (.nil (.region (.run 2 rfl trivial (.nil ?_))))))
   exact ⟨(ia, im), ⟨rfl, rfl, rfl, rfl, rfl, rfl, rfl, rfl, rfl, trivial⟩, .inr ⟨hc140, rfl, rfl⟩, hS⟩
  rintro ⟨s0, r0⟩ w ⟨h0, hS⟩
  change WC _ _ _ _ [(0, .slice (some (ad b0 0)) n c), (1, I64 ia), (2, I64 im), (3, I64 ib), (4, CF p), (18, I64 ((ia + ib) / 2)), (19, I64 (((ia + ib) / 2) + im)), (20, I64 s0), (21, I64 r0)] w
  refine .seq (.region (.run 3 rfl ⟨⟨by omega, by omega⟩, trivial⟩ (.nil (.seq (.block ?_)))))
  refine WC.loop (σ := Int × Int) (fun ⟨s, q⟩ => [(0, .slice (some (ad b0 0)) n c), (1, I64 ia), (2, I64 im), (3, I64 ib), (4, CF p), (18, I64 ((ia + ib) / 2)), (19, I64 (((ia + ib) / 2) + im)), (20, I64 s), (21, I64 q), (22, I64 (((ia + ib) / 2) + im - 1))]) (fun ⟨s, q⟩ w => s0 ≤ s ∧ s ≤ q ∧ q ≤ r0 ∧ (s = s0 ∨ ¬ kx l (D.getD (((ia + ib) / 2) + im - 1 - (s - 1)).toNat 0) < kx l (D.getD (s - 1).toNat 0)) ∧ (q = r0 ∨ kx l (D.getD (((ia + ib) / 2) + im - 1 - q).toNat 0) < kx l (D.getD q.toNat 0)) ∧ Sat B w I (blk b0 ((D).map I64 ++ r) 3 :: As)) (fun ⟨s, q⟩ => (q - s).toNat) (s0, r0) ⟨rfl, rfl, rfl, rfl, rfl, rfl, rfl, rfl, rfl, rfl, trivial⟩ ⟨Int.le_refl _, by (try dsimp only); omega, Int.le_refl _, .inl rfl, .inl rfl, hS⟩ ?_
  rintro ⟨s, q⟩ w ⟨hs0, hsq, hq0, hb1, hb2, hS⟩
  change WC _ _ _ _ [(0, .slice (some (ad b0 0)) n c), (1, I64 ia), (2, I64 im), (3, I64 ib), (4, CF p), (18, I64 ((ia + ib) / 2)), (19, I64 (((ia + ib) / 2) + im)), (20, I64 s), (21, I64 q), (22, I64 (((ia + ib) / 2) + im - 1))] w
  refine .seq (.seq (.region (.run 3 rfl trivial (.nil ?_))))
  refine WC.cond rfl (fun hb151 => ?_) (fun hb151 => ?_)
  ·
   have hc151 := hb151; try simp only [Gk.cs0] at hc151
   refine .skip (.block (.seq (.region (.run 3 rfl ⟨⟨by omega, by omega⟩, trivial⟩ ?_))))
   refine WL.val (.cvi (.of rfl) Tryz.underlying3 Tryz.underlying238 (by rw [IntKind.wrap_u64]; omega)) rfl ?_
   refine .val (.shr1 (.of rfl) (.of rfl) (by decide)) rfl ?_
   refine WL.val (.cvi (.of rfl) Tryz.underlying238 Tryz.underlying3 (by rw [IntKind.wrap_i64]; omega)) rfl ?_
   refine .run 1 rfl trivial (.nil (.seq (.quiet (by kernel_rfl) (by kernel_rfl) hS (.val (fun w hS => (.move (.of rfl))) rfl (.val (fun w hS => (.move (.of rfl))) rfl (.val (fun w hS => (.move (.of rfl))) rfl (.val (fun w hS => (.move (.of rfl))) rfl (.val (fun w hS => (.sub (.of rfl) (.of rfl) ⟨by omega, by omega⟩)) rfl (.val (fun w hS => (.indexAddr (.of rfl) (.of rfl) (by omega) (by omega) Tryz.underlying195 Tryz.sizeOf3)) rfl (.val (fun w hS => .ldE I64 D 0 r (i := ((ia + ib) / 2) + im - 1 - ((s + q) / 2)) (.of rfl) hS (k := 0) rfl rfl Tryz.isAgg3 (by omega) (by omega)) rfl (.val (fun w hS => (.move (.of rfl))) rfl (.val (fun w hS => (.move (.of rfl))) rfl (.val (fun w hS => (.indexAddr (.of rfl) (.of rfl) (by omega) (by omega) Tryz.underlying195 Tryz.sizeOf3)) rfl (.val (fun w hS => .ldE I64 D 0 r (i := ((s + q) / 2)) (.of rfl) hS (k := 0) rfl rfl Tryz.isAgg3 (by omega) (by omega)) rfl ?_))))))))))))))
   refine WQ.vcall Tryz.func171 rfl (.of rfl) (evs_cons (.of rfl) (evs_cons (.of rfl) evs_nil)) rfl (fun w hS => by have hj1 := hin2 (((ia + ib) / 2) + im - 1 - ((s + q) / 2)).toNat (by omega) (by omega); have hj2 := hin2 (((s + q) / 2)).toNat (by omega) (by omega); exact cmp_any hx _ _ hj1.1 hj1.2 hj2.1 hj2.2 B w _ hS) ?_
   refine .val (fun w hS => (.lss (.of rfl) (.of rfl))) rfl (.val (fun w hS => (.not (.of rfl))) rfl (.nil ?_))
   clear hS; intro w hS
   refine WC.cond rfl (fun hb171 => ?_) (fun hb171 => ?_)
   ·
    have hc171 := hb171; try simp only [Gk.cs0] at hc171
    refine .region (.run 3 rfl ⟨⟨by omega, by omega⟩, trivial⟩ (.nil ?_))
    have h9 : ¬ _ := fun h => (Int.not_lt.2 hc171) (Srt.cmpv_neg.2 h)
    exact ⟨((s + q) / 2 + 1, q), ⟨rfl, rfl, rfl, rfl, rfl, rfl, rfl, rfl, rfl, rfl, trivial⟩, ⟨by (try dsimp only); omega, by (try dsimp only); omega, hq0, .inr (by (try dsimp only); rw [show (s + q) / 2 + 1 - 1 = (s + q) / 2 by omega]; exact h9), hb2, hS⟩, by (try dsimp only); omega⟩
   have hc171 := hb171; try simp only [Gk.cs0] at hc171
   refine .region (.run 2 rfl trivial (.nil ?_))
   have h9 := Srt.cmpv_neg.1 hc171
   exact ⟨(s, (s + q) / 2), ⟨rfl, rfl, rfl, rfl, rfl, rfl, rfl, rfl, rfl, rfl, trivial⟩, ⟨hs0, by (try dsimp only); omega, by (try dsimp only); omega, hb1, .inr h9, hS⟩, by (try dsimp only); omega⟩
  have hc151 := hb151; try simp only [Gk.cs0] at hc151
  refine .exit (.seq ?_)
  have hsq : s = q := by omega
  subst hsq
  have hsp := Srt.split_lt hU hV hc (s := (s - ia).toNat) (e := (((ia + ib) / 2) - s).toNat) (by omega) (by omega) (by
   by_cases hz1 : s = ia
   ·exact .inl (by omega)
   by_cases hz2 : (((ia + ib) / 2) - s).toNat = V.length
   ·exact .inr (.inl hz2)
   rcases hb1 with h | h
   ·rcases h0 with h0 | h0
    ·exact .inr (.inl (by omega))
    ·exact .inl (by omega)
   ·refine .inr (.inr ?_)
    rw [show (((ia + ib) / 2) + im - 1 - (s - 1)).toNat = F.length + U.length + (((ia + ib) / 2) - s).toNat by omega, hDV (((ia + ib) / 2) - s).toNat (by omega), show (s - 1).toNat = F.length + ((s - ia).toNat - 1) by omega, hDU ((s - ia).toNat - 1) (by omega)] at h
    exact Srt.not_bef_later (hc _ (Srt.getD_mem (by omega)) _ (Srt.getD_mem (by omega))) h) (by
   by_cases hz1 : s = ((ia + ib) / 2)
   ·exact .inl (by omega)
   by_cases hz2 : (s - ia).toNat = U.length
   ·exact .inr (.inl hz2)
   rcases hb2 with h | h
   ·rcases h0 with h0 | h0
    ·exact .inl (by omega)
    ·exact .inr (.inl (by omega))
   ·refine .inr (.inr ?_)
    rw [show (((ia + ib) / 2) + im - 1 - s).toNat = F.length + U.length + ((((ia + ib) / 2) - s).toNat - 1) by omega, hDV ((((ia + ib) / 2) - s).toNat - 1) (by omega), show s.toNat = F.length + (s - ia).toNat by omega, hDU (s - ia).toNat (by omega)] at h
    exact (Srt.bef_later (hc _ (Srt.getD_mem (by omega)) _ (Srt.getD_mem (by omega)))).2 h)
  have hs1 : 0 ≤ s - ia ∧ s - ia ≤ U.length ∧ 0 ≤ ((ia + ib) / 2) - s ∧ ((ia + ib) / 2) - s ≤ V.length := by omega
  obtain ⟨Ua, Ub, Va, Vb, hUab, hVab, hUal, hVal, hsp2⟩ : ∃ Ua Ub Va Vb, U = Ua ++ Ub ∧ V = Va ++ Vb ∧ (Ua.length : Int) = s - ia ∧ (Va.length : Int) = ((ia + ib) / 2) - s ∧ (∀ x ∈ Ua ++ Va, ∀ y ∈ Ub ++ Vb, Srt.bef (kx l) x y) :=
   ⟨_, _, _, _, (List.take_append_drop (s - ia).toNat U).symm, (List.take_append_drop (((ia + ib) / 2) - s).toNat V).symm, by rw [List.length_take]; omega, by rw [List.length_take]; omega, hsp⟩
  clear hsp
  have hUl := congrArg List.length hUab
  rw [List.length_append] at hUl
  have hVl := congrArg List.length hVab
  rw [List.length_append] at hVl
  rw [hD, hUab, hVab] at hS
  rw [hUab] at hU
  rw [hVab] at hV
  rw [hUab, hVab] at hc hin
  have hUa := (List.pairwise_append.1 hU).1
  have hUb := (List.pairwise_append.1 hU).2.1
  have hVa := (List.pairwise_append.1 hV).1
  have hVb := (List.pairwise_append.1 hV).2.1
  refine .region (.run 4 rfl ⟨⟨by omega, by omega⟩, trivial⟩ (.nil ?_))
  refine WC.cutS (σ := Unit) (fun _ => [(0, .slice (some (ad b0 0)) n c), (1, I64 ia), (3, I64 ib), (4, CF p), (18, I64 ((ia + ib) / 2)), (20, I64 s), (24, I64 (((ia + ib) / 2) + im - s))]) (fun _ w => Sat B w I (blk b0 ((F ++ (Ua ++ (Va ++ (Ub ++ (Vb ++ C))))).map I64 ++ r) 3 :: As)) ?_ ?_
  ·
   refine .seq (.region (.run 4 rfl trivial (.gval rfl rfl (fun hg1 => (.move (.of rfl))) rfl (.gval rfl rfl (fun hg1 => (.move (.of rfl))) rfl (.gval rfl rfl (fun hg1 => (.lss (.gd hg1 rfl) (.gd hg1 rfl))) rfl (.val (.pand (.of rfl) (.of rfl) (.of rfl)) rfl (.nil ?_)))))))
   refine WC.cond rfl (fun hb185 => ?_) (fun hb185 => ?_)
   ·
    have hc185 := hb185; try simp only [Gk.cs0] at hc185
    refine .region (.run 5 rfl trivial ?_)
    rw [show F ++ ((Ua ++ Ub) ++ ((Va ++ Vb) ++ C)) = (F ++ Ua) ++ (Ub ++ (Va ++ (Vb ++ C))) by simp only [List.append_assoc]] at hS
    refine WL.call Tryz.func232 rfl (evs_cons (.of rfl) (evs_cons (.of rfl) (evs_cons (.of rfl) (evs_cons (.of rfl) (evs_cons (.of rfl) evs_nil))))) rfl (rot_any (F ++ Ua) Ub Va (Vb ++ C) (by omega) (by omega) (CF p) b0 n c r _ _ _ (by rw [List.length_append]; omega) (by rw [List.length_append]; omega) (by rw [List.length_append]; omega) (by omega) (by simp only [List.length_append]; omega) B w I As hS) ?_
    clear hS
    rintro _ w ⟨rfl, hS⟩
    refine .nil ?_
    rw [show (F ++ Ua) ++ (Va ++ (Ub ++ (Vb ++ C))) = F ++ (Ua ++ (Va ++ (Ub ++ (Vb ++ C)))) by simp only [List.append_assoc]] at hS
    exact ⟨(), ⟨rfl, rfl, rfl, rfl, rfl, rfl, rfl, trivial⟩, hS⟩
   have hc185 := hb185; try simp only [Gk.cs0] at hc185
   refine .skip ?_
   have e : F ++ ((Ua ++ Ub) ++ ((Va ++ Vb) ++ C)) = F ++ (Ua ++ (Va ++ (Ub ++ (Vb ++ C)))) := by
    rcases hc185 with h | h
    ·obtain rfl : Ub = [] := List.eq_nil_of_length_eq_zero (by omega)
     simp only [List.append_assoc, List.nil_append]
    ·obtain rfl : Va = [] := List.eq_nil_of_length_eq_zero (by omega)
     simp only [List.append_assoc, List.nil_append]
   rw [e] at hS
   exact ⟨(), ⟨rfl, rfl, rfl, rfl, rfl, rfl, rfl, trivial⟩, hS⟩
  rintro _ w hS
  change WC _ _ _ _ [(0, .slice (some (ad b0 0)) n c), (1, I64 ia), (3, I64 ib), (4, CF p), (18, I64 ((ia + ib) / 2)), (20, I64 s), (24, I64 (((ia + ib) / 2) + im - s))] w
  refine WC.cutS (σ := List Int) (fun M1 => [(0, .slice (some (ad b0 0)) n c), (1, I64 ia), (3, I64 ib), (4, CF p), (18, I64 ((ia + ib) / 2)), (20, I64 s), (24, I64 (((ia + ib) / 2) + im - s))]) (fun M1 w => M1.Perm (Ua ++ Va) ∧ Srt.So (kx l) M1 ∧ Sat B w I (blk b0 ((F ++ (M1 ++ (Ub ++ (Vb ++ C)))).map I64 ++ r) 3 :: As)) ?_ ?_
  ·
   refine .seq (.region (.run 4 rfl trivial (.gval rfl rfl (fun hg1 => (.move (.of rfl))) rfl (.gval rfl rfl (fun hg1 => (.move (.of rfl))) rfl (.gval rfl rfl (fun hg1 => (.lss (.gd hg1 rfl) (.gd hg1 rfl))) rfl (.val (.pand (.of rfl) (.of rfl) (.of rfl)) rfl (.nil ?_)))))))
   refine WC.cond rfl (fun hb199 => ?_) (fun hb199 => ?_)
   ·
    have hc199 := hb199; try simp only [Gk.cs0] at hc199
    refine .region (.run 5 rfl trivial ?_)
    have hUa0 : 0 < Ua.length := by omega
    have hVa0 : 0 < Va.length := by omega
    refine WL.call Tryz.func219 rfl (evs_cons (.of rfl) (evs_cons (.of rfl) (evs_cons (.of rfl) (evs_cons (.of rfl) (evs_cons (.of rfl) evs_nil))))) rfl (ih F Ua Va (Ub ++ (Vb ++ C)) hUa hVa (Srt.cross_sub hc (fun _ h => List.mem_append_left _ h) (fun _ h => List.mem_append_left _ h)) (fun x hx => hin x (by rcases List.mem_append.1 hx with h | h <;> simp [h])) hUa0 hVa0 (by omega) b0 n c r _ _ _ (by omega) (by omega) (by omega) (by omega) (by simp only [List.length_append]; omega) B w As hS) ?_
    clear hS
    rintro _ w ⟨rfl, M1, hM1, hMs, hS⟩
    refine .nil ?_
    exact ⟨M1, ⟨rfl, rfl, rfl, rfl, rfl, rfl, rfl, trivial⟩, hM1, hMs, hS⟩
   have hc199 := hb199; try simp only [Gk.cs0] at hc199
   refine .skip ?_
   have e : Srt.So (kx l) (Ua ++ Va) := by
    rcases hc199 with h | h
    ·obtain rfl : Ua = [] := List.eq_nil_of_length_eq_zero (by omega)
     simpa using hVa
    ·obtain rfl : Va = [] := List.eq_nil_of_length_eq_zero (by omega)
     simpa using hUa
   refine ⟨Ua ++ Va, ⟨rfl, rfl, rfl, rfl, rfl, rfl, rfl, trivial⟩, .refl _, e, ?_⟩
   rw [List.append_assoc]; exact hS
  rintro M1 w ⟨hM1, hMs, hS⟩
  change WC _ _ _ _ [(0, .slice (some (ad b0 0)) n c), (1, I64 ia), (3, I64 ib), (4, CF p), (18, I64 ((ia + ib) / 2)), (20, I64 s), (24, I64 (((ia + ib) / 2) + im - s))] w
  refine .seq (.region (.run 4 rfl trivial (.gval rfl rfl (fun hg1 => (.move (.of rfl))) rfl (.gval rfl rfl (fun hg1 => (.move (.of rfl))) rfl (.gval rfl rfl (fun hg1 => (.lss (.gd hg1 rfl) (.gd hg1 rfl))) rfl (.val (.pand (.of rfl) (.of rfl) (.of rfl)) rfl (.nil ?_)))))))
  refine WC.cond rfl (fun hb213 => ?_) (fun hb213 => ?_)
  ·
   have hc213 := hb213; try simp only [Gk.cs0] at hc213
   refine .region (.run 5 rfl trivial ?_)
   have hUb0 : 0 < Ub.length := by omega
   have hVb0 : 0 < Vb.length := by omega
   have hMl := hM1.length_eq
   rw [List.length_append] at hMl
   rw [show F ++ (M1 ++ (Ub ++ (Vb ++ C))) = (F ++ M1) ++ (Ub ++ (Vb ++ C)) by simp only [List.append_assoc]] at hS
   refine WL.call Tryz.func219 rfl (evs_cons (.of rfl) (evs_cons (.of rfl) (evs_cons (.of rfl) (evs_cons (.of rfl) (evs_cons (.of rfl) evs_nil))))) rfl (ih (F ++ M1) Ub Vb C hUb hVb (Srt.cross_sub hc (fun _ h => List.mem_append_right _ h) (fun _ h => List.mem_append_right _ h)) (fun x hx => hin x (by rcases List.mem_append.1 hx with h | h <;> simp [h])) hUb0 hVb0 (by omega) b0 n c r _ _ _ (by rw [List.length_append]; omega) (by rw [List.length_append]; omega) (by rw [List.length_append]; omega) (by omega) (by simp only [List.length_append]; omega) B w As hS) ?_
   clear hS
   rintro _ w ⟨rfl, M2, hM2, hMs2, hS⟩
   refine .nil (end0 Tryz.results219 ?_)
   have hPM : (M1 ++ M2).Perm (U ++ V) := by
    rw [hUab, hVab]
    refine (hM1.append hM2).trans ?_
    simp only [List.append_assoc]
    refine List.Perm.append_left Ua ?_
    rw [← List.append_assoc, ← List.append_assoc]
    exact List.perm_append_comm.append_right Vb
   have hSM : Srt.So (kx l) (M1 ++ M2) := Srt.so_app hMs hMs2 (fun x hx y hy => hsp2 x (hM1.mem_iff.1 hx) y (hM2.mem_iff.1 hy))
   exact ⟨_, rfl, rfl, M1 ++ M2, hPM, hSM, by simpa using hS⟩
  have hc213 := hb213; try simp only [Gk.cs0] at hc213
  refine .skip (end0 Tryz.results219 ?_)
  obtain ⟨M2, hM2e⟩ : ∃ M2, M2 = Ub ++ Vb := ⟨_, rfl⟩
  have hM2 : M2.Perm (Ub ++ Vb) := by rw [hM2e]
  have hMs2 : Srt.So (kx l) M2 := by
   rw [hM2e]
   rcases hc213 with h | h
   ·obtain rfl : Ub = [] := List.eq_nil_of_length_eq_zero (by omega)
    simpa using hVb
   ·obtain rfl : Vb = [] := List.eq_nil_of_length_eq_zero (by omega)
    simpa using hUb
  have hPM : (M1 ++ M2).Perm (U ++ V) := by
   rw [hUab, hVab]
   refine (hM1.append hM2).trans ?_
   simp only [List.append_assoc]
   refine List.Perm.append_left Ua ?_
   rw [← List.append_assoc, ← List.append_assoc]
   exact List.perm_append_comm.append_right Vb
  have hSM : Srt.So (kx l) (M1 ++ M2) := Srt.so_app hMs hMs2 (fun x hx y hy => hsp2 x (hM1.mem_iff.1 hx) y (hM2.mem_iff.1 hy))
  refine ⟨_, rfl, rfl, M1 ++ M2, hPM, hSM, ?_⟩
  rw [hM2e]; simpa using hS
end Go.Proofs.YtadhiihnnkcagaaGreatDoor
