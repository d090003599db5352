/- Part 6 of what the proof stands on: W18v, W18w, W21f, Tmo, W21g, W21o, W21p, W21q, W21s. -/
import Derived.Test.YtadhiihnnkcagaaGreatDoorM2PE
namespace Go.Proofs.YtadhiihnnkcagaaGreatDoor
open Gk Pat
set_option linter.unusedVariables false
set_option linter.unusedSimpArgs false
theorem info32_89 : Tryz.prog.info? 32 = some Tryz.t32 := by kernel_rfl
theorem info155_89 : Tryz.prog.info? 155 = some Tryz.t155 := by kernel_rfl
theorem bld157_89 : Bld Tryz.prog 157 [(0, 1)] [.slice none 0 0] := bld_of Tryz.underlying157 Tryz.zeroValue157 (fun w => by simp [go_sem])
theorem bad_le {l : List Sv} {i : Nat} (h : ∀ (j : Nat) t, j < i → l[j]? = some t → bad l j t = 0) (hi : i ≤ l.length) : i ≤ 16 := by
 rcases Nat.lt_or_ge 16 i with h1 | h1
 ·have := h 16 _ h1 (List.getElem?_eq_getElem (by omega))
  unfold bad at this
  rw [if_pos rfl] at this
  cases this
 ·exact h1
theorem badO_bad {l : List Sv} {i : Nat} {s : Sv} (hi : i ≤ 16) (hl : i ≤ l.length) : badO (l.take i) s = bad l i s := by
 unfold badO bad
 rw [List.length_take, Nat.min_eq_left hl]
 by_cases h : i = 16
 ·rw [if_pos (by omega), if_pos h]
 ·rw [if_neg (by omega), if_neg h]
theorem made_n (s : Sv) (sa : Option Addr) (sc : Nat) (hsc : s.rel.length ≤ sc) (hrl : s.rel.length ≤ 1000000) (hu : s.urls.length ≤ 9223372036854775807) (hcl : s.calls.length ≤ 9223372036854775807) (a : Option Addr) (cap : Nat) (lo : List Sv) (n : Nat) (hn : lo.length = n) (hlo : n ≤ 100000) (B w : World) (I : Im) (hr : RS I sa 1 s.rel.length (s.rel.map S)) (As : List Assn) (hE : ∀ w, Sat B w I As → EntsW w I a lo) (hS : Sat B w I As) :
  Calls Tryz.prog 130 [.agg [I64 s.id, F64 s.ord, S s.urls, .bool s.login, .bool s.proxy, .bool s.back, S s.calls, .slice sa s.rel.length sc].toArray, .slice a n cap].toArray w (Ret fun v w' => ∃ J cs code, Le I J ∧ v = .tuple #[.agg (List.toArray cs), I64 ((code : Nat) : Int)] ∧ code = badO lo s ∧ cs.length = 10 ∧ cs.all Value.oneCell' = true ∧ (code = 0 → EntAt J s cs) ∧ Sat B w' J As) := by
 subst hn
 exact made_any s sa sc hsc hrl hu hcl a cap lo hlo B w I hr As hE hS
theorem ents_n {B w : World} {I : Im} {As : List Assn} {k T cap n : Nat} {a : Option Addr} {E : List (List Value)} {l : List Sv} (hS : Sat B w I As) (hn : l.length = n) (hk : As[k]? = some (Vec T 10 (.slice a n cap) n E.flatten)) (h10 : ∀ c ∈ E, c.length = 10)
  (hE : ∀ (i : Nat) (s : Sv), l[i]? = some s → ∃ c, E[i]? = some c ∧ EntAt I s c) : EntsW w I a l := by
 subst hn
 exact ents_vec hS hk h10 hE
theorem EntAt.mono {I J : Im} {s : Sv} {l : List Value} (h : EntAt I s l) (hl : Le I J) : EntAt J s l := by
 obtain ⟨ra, rc, pp, qq, Q, T, e2, h2, h3, h4, h5, h6, h7⟩ := h
 exact ⟨ra, rc, pp, qq, Q, T, e2, h2, h3.mono hl, h4, h5.mono hl, h6, h7.mono hl⟩
theorem EntAt.len {I : Im} {s : Sv} {l : List Value} (h : EntAt I s l) : l.length = 10 := by
 obtain ⟨ra, rc, pp, qq, Q, T, rfl, _⟩ := h
 rfl
def pickS (l : List Sv) (D : List Int) : List Sv := D.map fun d => l.getD d.toNat z0
theorem New_any (a : Option Addr) (cap : Nat) (l : List Sv) (hln : l.length ≤ 100000) (hom : ∀ v ∈ ords l, v < 18446744073709551616) (hfit : ∀ s ∈ l, s.urls.length ≤ 9223372036854775807 ∧ s.calls.length ≤ 9223372036854775807 ∧ s.rel.length ≤ 1000000) (B w : World) (I : Im) (hl : SvsAt I a l) (As : List Assn) (hS : Sat B w I As) :
  Calls Tryz.prog 89 [.slice a l.length cap].toArray w (Ret fun v w' => ∃ J, Le I J ∧ Sat B w' J As ∧ (((wrong l).1 ≠ 0 ∧ v = .tuple #[.pointer none, I64 ((wrong l).1 : Nat), I64 ((wrong l).2 : Nat)]) ∨ ((wrong l).1 = 0 ∧ ∃ pr D, v = .tuple #[.pointer (some pr), I64 0, I64 0] ∧ Srt.Ord (kx (ords l)) l.length D ∧ RegAt J pr (pickS l D)))) := by
 refine calls Tryz.func89 rfl Tryz.ntmps89 rfl (.seq (.region (.run 3 rfl trivial (.nil (.seq (.region (.run 1 rfl trivial (.nil (.seq (.region (.run 1 rfl trivial (.nil (.seq (.seq (.region (.run 3 rfl ⟨⟨_, Tryz.underlying27⟩, trivial⟩ (.nil (.block ?_))))))))))))))))))
 replace hS := hS.vecNil 32 1
 replace hS := hS.vecNil 155 10
 refine .loop (σ := Nat × Im × Value × Value × List (List Value)) (fun ⟨i, J, ev, ov, E⟩ => [(5, ev), (6, ov), (14, .slice a l.length cap), (15, I64 (l.length : Nat)), (16, I64 (i : Nat))]) (fun ⟨i, J, ev, ov, E⟩ w => i ≤ l.length ∧ Le I J ∧ E.length = i ∧ (∀ c ∈ E, c.length = 10) ∧ (∀ (j : Nat) (s : Sv), (l.take i)[j]? = some s → ∃ c, E[j]? = some c ∧ EntAt J s c) ∧ (∀ (j : Nat) (t : Sv), j < i → l[j]? = some t → bad l j t = 0) ∧ Sat B w J (Vec 155 10 ev i E.flatten :: Vec 32 1 ov i (((ords l).take i).map F64) :: As)) (fun ⟨i, J, ev, ov, E⟩ => l.length - i) (0, I, .slice none 0 0, .slice none 0 0, []) ⟨rfl, rfl, rfl, rfl, rfl, trivial⟩ ⟨Nat.zero_le _, Le.refl _, rfl, fun _ h => (by simp at h), fun _ _ h => (by simp at h), fun _ _ h => absurd h (by omega), hS⟩ ?_
 rintro ⟨i, J, ev, ov, E⟩ w ⟨hi, hJ, hEl, h10, hEE, hok, hS⟩
 change WC _ _ _ _ [(5, ev), (6, ov), (14, .slice a l.length cap), (15, I64 (l.length : Nat)), (16, I64 (i : Nat))] w
 refine .seq (.region (.run 1 rfl trivial (.nil (.seq ?_))))
 refine WC.cond rfl (fun hb17 => ?_) (fun hb17 => ?_)
 ·
  have hc17 := hb17; try simp only [Gk.cs0] at hc17
  refine .skip (.seq (.block (.seq ?_)))
  obtain ⟨s, hs⟩ : ∃ s, l[i]? = some s := ⟨_, List.getElem?_eq_getElem (by omega)⟩
  obtain ⟨p, ra, rc, rfl, hx, hrc, hr⟩ := (hl.mono hJ) i s hs
  unfold svCells at hx
  have hi16 := bad_le hok hi
  have hsm := hfit s (List.mem_of_getElem? hs)
  have hln : (l.take i).length = i := by rw [List.length_take]; omega
  have hnx : ((ords l).take (i + 1)).map F64 = ((ords l).take i).map F64 ++ [F64 s.ord] := by
   rw [List.take_add_one, ords, List.getElem?_map, hs, List.map_append]; rfl
  have htn : l.take (i + 1) = l.take i ++ [s] := by rw [List.take_add_one, hs]; rfl
  obtain ⟨ea, ec, rfl, hec, _⟩ := hS.vecSlice (k := 0) rfl
  obtain ⟨oa, oc, rfl, hoc, _⟩ := hS.vecSlice (k := 1) rfl
  refine .region (.run 1 rfl trivial (.val (.indexAddrI (.of rfl) (.of rfl) (by omega) (by omega) Tryz.underlying27 Tryz.sizeOf101) rfl (.val (.ldsI (.of rfl) hS hx Tryz.isAgg101 Tryz.sizeOf101 rfl (fun _ _ h => h)) rfl (.allocA (cs := [_, _, _, _, _, _, _, _]) hS Tryz.zeroValue101 rfl ?_))))
  clear hS; intro b8 w hS
  refine .run 1 rfl trivial (.stA hS (k := 0) rfl (.of rfl) (.of rfl) rfl Tryz.sizeOf101 rfl (by simp) ?_)
  clear hS; intro w hS; try dsimp only [List.set] at hS
  try simp only [List.take_zero, List.nil_append, List.append_nil, List.drop_succ_cons, List.drop_zero, List.drop_nil, Nat.zero_add] at hS
  refine .nil (.seq (.region (.val (.ldsW (cs := [_, _, _, _, _, _, _, _]) (.of rfl) hS (k := 0) rfl Tryz.isAgg101 Tryz.sizeOf101 rfl) rfl (.run 1 rfl trivial (.call Tryz.func130 rfl (evs_cons (.of rfl) (evs_cons (.of rfl) evs_nil)) rfl (made_n s ra rc hrc hsm.2.2 hsm.1 hsm.2.1 ea ec (l.take i) i hln (by omega) B _ J hr _ (fun w h => ents_n h hln (k := 1) rfl h10 hEE) hS) ?_)))))
  clear hS
  rintro _ w ⟨J2, cs, code, hJ2, rfl, hcode, hcs10, hall, hent, hS⟩
  refine .run 3 rfl trivial (.allocA (cs := [_, _, _, _, _, _, _, _, _, _]) hS Tryz.zeroValue155 rfl ?_)
  clear hS; intro b9 w hS
  refine .stA hS (k := 0) rfl (.of rfl) (.of rfl) hall Tryz.sizeOf155 hcs10 (by simp) ?_
  clear hS; intro w hS; try dsimp only [List.set] at hS
  try simp only [List.take_zero, List.nil_append, List.append_nil, List.drop_succ_cons, List.drop_zero, List.drop_nil, Nat.zero_add] at hS
  refine .run 1 rfl trivial (.nil (.seq (.seq (.region (.run 2 rfl trivial (.nil ?_))))))
  refine WC.cond rfl (fun hb28 => ?_) (fun hb28 => ?_)
  ·
   have hc28 := hb28; try simp only [Gk.cs0] at hc28
   refine .seq (.region (.run 5 rfl trivial (.nil (.ret (ret3 Tryz.results89 rfl rfl rfl ?_)))))
   have hb2 := badO_bad (l := l) (i := i) (s := s) hi16 (by omega)
   have hbn : bad l i s ≠ 0 := by rw [← hb2, ← hcode]; omega
   have hw := wrong_hit hok hs hbn
   refine ⟨_, rfl, J2, Le.trans hJ hJ2, (((hS.drop (k := 0) rfl).drop (k := 0) rfl).drop (k := 0) rfl).drop (k := 0) rfl, .inl ⟨by rw [hw]; exact hbn, ?_⟩⟩
   rw [hw, hcode, hb2]
   rfl
  have hc28 := hb28; try simp only [Gk.cs0] at hc28
  refine .skip ?_
  have hcode0 : code = 0 := by omega
  obtain ⟨sa, sc, pp, qq, Q, T, rfl, hsc, hent⟩ := hent hcode0
  have hent2 : EntAt J2 s (entCells s sa sc pp qq) := ⟨sa, sc, pp, qq, Q, T, rfl, hsc, hent⟩
  have hbad0 : bad l i s = 0 := by rw [← badO_bad (l := l) (i := i) hi16 (by omega), ← hcode, hcode0]
  unfold entCells at hS
  refine .drawn (fun w => ∃ R, Sat B w J2 (blk b9 [I64 s.id, F64 s.ord, S s.urls, .bool s.login, .bool s.proxy, .bool s.back, S s.calls, .slice sa s.rel.length sc, .pointer (some pp), .pointer (some qq)] 155 :: blk b8 [I64 s.id, F64 s.ord, S s.urls, .bool s.login, .bool s.proxy, .bool s.back, S s.calls, .slice ra s.rel.length rc] 101 :: R)) (fun j => !([].contains j)) (by kernel_rfl) ?_
  replace hS := hS.drew; generalize w.drew = w at hS ⊢
  have hH : ∃ R, Sat B w J2 (blk b9 [I64 s.id, F64 s.ord, S s.urls, .bool s.login, .bool s.proxy, .bool s.back, S s.calls, .slice sa s.rel.length sc, .pointer (some pp), .pointer (some qq)] 155 :: blk b8 [I64 s.id, F64 s.ord, S s.urls, .bool s.login, .bool s.proxy, .bool s.back, S s.calls, .slice ra s.rel.length rc] 101 :: R) := ⟨_, ((hS.pick 1 rfl).pick 1 rfl)⟩
  refine .takeP (i := 0) rfl (by kernel_rfl) (by kernel_rfl) (by kernel_rfl) (fun w => (.move (.of rfl))) rfl (.take (i := 1) rfl (by kernel_rfl) (by kernel_rfl) (by kernel_rfl) (by kernel_rfl) hH (fun w ⟨R, hS⟩ => (.ldsW (cs := [_, _, _, _, _, _, _, _, _, _]) (.of rfl) hS (k := 0) rfl Tryz.isAgg155 Tryz.sizeOf155 rfl)) rfl (.takeP (i := 4) rfl (by kernel_rfl) (by kernel_rfl) (by kernel_rfl) (fun w => (.move (.of rfl))) rfl (.takeP (i := 5) rfl (by kernel_rfl) (by kernel_rfl) (by kernel_rfl) (fun w => (.fieldAddr 1 (.of rfl) Tryz.underlying101 rfl rfl Tryz.sizeOf32 rfl)) rfl (.take (i := 6) rfl (by kernel_rfl) (by kernel_rfl) (by kernel_rfl) (by kernel_rfl) hH (fun w ⟨R, hS⟩ => (.ld (.of rfl) hS (k := 1) rfl Tryz.isAgg32 rfl)) rfl ?_))))
  refine WD.branch [2, 7] (by kernel_rfl) rfl (WO.cons rfl ?_ (WO.cons rfl ?_ (WO.nil)))
  ·
   refine .buildSlice (cs := [_, _, _, _, _, _, _, _, _, _]) hS (parts_cons (.of rfl) parts_nil) Tryz.underlying152 Tryz.sizeOf155 Tryz.zeroValue155 rfl rfl rfl rfl ?_
   clear hS; intro b33 w hS
   refine .nil ?_
   clear hH
   have hH : ∃ R, Sat B w J2 (blk b9 [I64 s.id, F64 s.ord, S s.urls, .bool s.login, .bool s.proxy, .bool s.back, S s.calls, .slice sa s.rel.length sc, .pointer (some pp), .pointer (some qq)] 155 :: blk b8 [I64 s.id, F64 s.ord, S s.urls, .bool s.login, .bool s.proxy, .bool s.back, S s.calls, .slice ra s.rel.length rc] 101 :: R) := ⟨_, ((hS.pick 2 rfl).pick 2 rfl)⟩
   refine And.intro (by intro _ _; exact hH) ?_
   refine WD.branch [3, 7] (by kernel_rfl) rfl (WO.cons rfl ?_ (WO.cons rfl ?_ (WO.nil)))
   ·
    refine WL.append (size := 10) (bytes := 96) hS (.of rfl) (.of rfl) (k := 2) rfl Tryz.underlying152 info155_89 rfl rfl rfl rfl rfl rfl rfl ⟨by omega, by unfold maxLen; omega⟩ rfl ?_
    clear hS; intro v34 w hS; try dsimp only [List.set] at hS
    obtain ⟨a34, c34, rfl, hcap34, _⟩ := hS.vecSlice (k := 2) (v := v34) rfl
    refine .nil ?_
    clear hH
    have hH : ∃ R, Sat B w J2 (blk b9 [I64 s.id, F64 s.ord, S s.urls, .bool s.login, .bool s.proxy, .bool s.back, S s.calls, .slice sa s.rel.length sc, .pointer (some pp), .pointer (some qq)] 155 :: blk b8 [I64 s.id, F64 s.ord, S s.urls, .bool s.login, .bool s.proxy, .bool s.back, S s.calls, .slice ra s.rel.length rc] 101 :: R) := ⟨_, ((hS.pick 1 rfl).pick 1 rfl)⟩
    refine And.intro (by intro _ _; exact hH) ?_
    refine WD.branch [7] (by kernel_rfl) rfl (WO.cons rfl ?_ (WO.nil))
    refine .buildSlice (cs := [_]) hS (parts_cons (.of rfl) parts_nil) Tryz.underlying192 Tryz.sizeOf32 Tryz.zeroValue32 rfl rfl rfl rfl ?_
    clear hS; intro b38 w hS
    refine .nil ?_
    clear hH
    have hH : ∃ R, Sat B w J2 (blk b9 [I64 s.id, F64 s.ord, S s.urls, .bool s.login, .bool s.proxy, .bool s.back, S s.calls, .slice sa s.rel.length sc, .pointer (some pp), .pointer (some qq)] 155 :: blk b8 [I64 s.id, F64 s.ord, S s.urls, .bool s.login, .bool s.proxy, .bool s.back, S s.calls, .slice ra s.rel.length rc] 101 :: R) := ⟨_, ((hS.pick 2 rfl).pick 2 rfl)⟩
    refine And.intro (by intro _ _; exact hH) ?_
    refine WD.branch [8] (by kernel_rfl) rfl (WO.cons rfl ?_ (WO.nil))
    refine WL.append (size := 1) (bytes := 8) hS (.of rfl) (.of rfl) (k := 3) rfl Tryz.underlying192 info32_89 rfl rfl rfl rfl rfl rfl rfl ⟨by omega, by unfold maxLen; omega⟩ rfl ?_
    clear hS; intro v39 w hS; try dsimp only [List.set] at hS
    obtain ⟨a39, c39, rfl, hcap39, _⟩ := hS.vecSlice (k := 3) (v := v39) rfl
    refine .nil ?_
    clear hH
    have hH : ∃ R, Sat B w J2 (blk b9 [I64 s.id, F64 s.ord, S s.urls, .bool s.login, .bool s.proxy, .bool s.back, S s.calls, .slice sa s.rel.length sc, .pointer (some pp), .pointer (some qq)] 155 :: blk b8 [I64 s.id, F64 s.ord, S s.urls, .bool s.login, .bool s.proxy, .bool s.back, S s.calls, .slice ra s.rel.length rc] 101 :: R) := ⟨_, ((hS.pick 1 rfl).pick 1 rfl)⟩
    refine And.intro (by intro _ _; exact hH) ?_
    refine .takeP (i := 9) rfl (by kernel_rfl) (by kernel_rfl) (by kernel_rfl) (fun w => (.assign (.of rfl))) rfl (.takeP (i := 10) rfl (by kernel_rfl) (by kernel_rfl) (by kernel_rfl) (fun w => (.assign (.of rfl))) rfl (.done (by kernel_rfl) (.region (.run 2 rfl ⟨⟨by omega, by omega⟩, trivial⟩ (.nil ?_)))))
    have hfin := ((hS.drop (k := 0) rfl).drop (k := 0) rfl)
    refine ⟨(i + 1, J2, .slice a34 (i + 1) c34, .slice a39 (i + 1) c39, E ++ [entCells s sa sc pp qq]), ⟨rfl, rfl, rfl, rfl, rfl, trivial⟩, ⟨by (try dsimp only); omega, Le.trans hJ hJ2, by (try dsimp only); rw [List.length_append, hEl]; rfl, fun c hc => ?_, fun j u hu => ?_, fun j u hj hu => ?_, ?_⟩, by (try dsimp only); omega⟩
    ·rcases List.mem_append.1 hc with h | h
     ·exact h10 c h
     ·simp at h; subst h; rfl
    ·(try dsimp only at hu)
     rw [htn] at hu
     rcases Nat.lt_or_ge j i with h1 | h1
     ·rw [List.getElem?_append_left (by omega)] at hu
      obtain ⟨c, e1, e2⟩ := hEE j u hu
      exact ⟨c, by rw [List.getElem?_append_left (by omega)]; exact e1, e2.mono hJ2⟩
     ·rw [List.getElem?_append_right (by omega), hln] at hu
      have hj0 : j - i = 0 := by have := (List.getElem?_eq_some_iff.1 hu).1; simp at this; omega
      rw [hj0] at hu
      cases hu
      exact ⟨_, by rw [List.getElem?_append_right (by omega), hEl, hj0]; rfl, hent2⟩
    ·rcases Nat.lt_or_ge j i with h1 | h1
     ·exact hok j u h1 hu
     ·have e : j = i := by (try dsimp only at hj); omega
      subst e
      rw [hs] at hu; cases hu
      exact hbad0
    ·(try dsimp only)
     rw [hnx, List.flatten_append]
     simpa [entCells] using hfin
   ·
    refine .buildSlice (cs := [_]) hS (parts_cons (.of rfl) parts_nil) Tryz.underlying192 Tryz.sizeOf32 Tryz.zeroValue32 rfl rfl rfl rfl ?_
    clear hS; intro b38 w hS
    refine .nil ?_
    clear hH
    have hH : ∃ R, Sat B w J2 (blk b9 [I64 s.id, F64 s.ord, S s.urls, .bool s.login, .bool s.proxy, .bool s.back, S s.calls, .slice sa s.rel.length sc, .pointer (some pp), .pointer (some qq)] 155 :: blk b8 [I64 s.id, F64 s.ord, S s.urls, .bool s.login, .bool s.proxy, .bool s.back, S s.calls, .slice ra s.rel.length rc] 101 :: R) := ⟨_, ((hS.pick 3 rfl).pick 3 rfl)⟩
    refine And.intro (by intro _ _; exact hH) ?_
    refine WD.branch [3] (by kernel_rfl) rfl (WO.cons rfl ?_ (WO.nil))
    replace hS := hS.pick 1 rfl; try dsimp only [List.eraseIdx] at hS
    refine WL.append (size := 10) (bytes := 96) hS (.of rfl) (.of rfl) (k := 3) rfl Tryz.underlying152 info155_89 rfl rfl rfl rfl rfl rfl rfl ⟨by omega, by unfold maxLen; omega⟩ rfl ?_
    clear hS; intro v34 w hS; try dsimp only [List.set] at hS
    obtain ⟨a34, c34, rfl, hcap34, _⟩ := hS.vecSlice (k := 3) (v := v34) rfl
    refine .nil ?_
    clear hH
    have hH : ∃ R, Sat B w J2 (blk b9 [I64 s.id, F64 s.ord, S s.urls, .bool s.login, .bool s.proxy, .bool s.back, S s.calls, .slice sa s.rel.length sc, .pointer (some pp), .pointer (some qq)] 155 :: blk b8 [I64 s.id, F64 s.ord, S s.urls, .bool s.login, .bool s.proxy, .bool s.back, S s.calls, .slice ra s.rel.length rc] 101 :: R) := ⟨_, ((hS.pick 2 rfl).pick 2 rfl)⟩
    refine And.intro (by intro _ _; exact hH) ?_
    refine WD.branch [8] (by kernel_rfl) rfl (WO.cons rfl ?_ (WO.nil))
    refine WL.append (size := 1) (bytes := 8) hS (.of rfl) (.of rfl) (k := 3) rfl Tryz.underlying192 info32_89 rfl rfl rfl rfl rfl rfl rfl ⟨by omega, by unfold maxLen; omega⟩ rfl ?_
    clear hS; intro v39 w hS; try dsimp only [List.set] at hS
    obtain ⟨a39, c39, rfl, hcap39, _⟩ := hS.vecSlice (k := 3) (v := v39) rfl
    refine .nil ?_
    clear hH
    have hH : ∃ R, Sat B w J2 (blk b9 [I64 s.id, F64 s.ord, S s.urls, .bool s.login, .bool s.proxy, .bool s.back, S s.calls, .slice sa s.rel.length sc, .pointer (some pp), .pointer (some qq)] 155 :: blk b8 [I64 s.id, F64 s.ord, S s.urls, .bool s.login, .bool s.proxy, .bool s.back, S s.calls, .slice ra s.rel.length rc] 101 :: R) := ⟨_, ((hS.pick 1 rfl).pick 1 rfl)⟩
    refine And.intro (by intro _ _; exact hH) ?_
    refine .takeP (i := 9) rfl (by kernel_rfl) (by kernel_rfl) (by kernel_rfl) (fun w => (.assign (.of rfl))) rfl (.takeP (i := 10) rfl (by kernel_rfl) (by kernel_rfl) (by kernel_rfl) (fun w => (.assign (.of rfl))) rfl (.done (by kernel_rfl) (.region (.run 2 rfl ⟨⟨by omega, by omega⟩, trivial⟩ (.nil ?_)))))
    have hfin := ((hS.drop (k := 0) rfl).drop (k := 0) rfl)
    refine ⟨(i + 1, J2, .slice a34 (i + 1) c34, .slice a39 (i + 1) c39, E ++ [entCells s sa sc pp qq]), ⟨rfl, rfl, rfl, rfl, rfl, trivial⟩, ⟨by (try dsimp only); omega, Le.trans hJ hJ2, by (try dsimp only); rw [List.length_append, hEl]; rfl, fun c hc => ?_, fun j u hu => ?_, fun j u hj hu => ?_, ?_⟩, by (try dsimp only); omega⟩
    ·rcases List.mem_append.1 hc with h | h
     ·exact h10 c h
     ·simp at h; subst h; rfl
    ·(try dsimp only at hu)
     rw [htn] at hu
     rcases Nat.lt_or_ge j i with h1 | h1
     ·rw [List.getElem?_append_left (by omega)] at hu
      obtain ⟨c, e1, e2⟩ := hEE j u hu
      exact ⟨c, by rw [List.getElem?_append_left (by omega)]; exact e1, e2.mono hJ2⟩
     ·rw [List.getElem?_append_right (by omega), hln] at hu
      have hj0 : j - i = 0 := by have := (List.getElem?_eq_some_iff.1 hu).1; simp at this; omega
      rw [hj0] at hu
      cases hu
      exact ⟨_, by rw [List.getElem?_append_right (by omega), hEl, hj0]; rfl, hent2⟩
    ·rcases Nat.lt_or_ge j i with h1 | h1
     ·exact hok j u h1 hu
     ·have e : j = i := by (try dsimp only at hj); omega
      subst e
      rw [hs] at hu; cases hu
      exact hbad0
    ·(try dsimp only)
     rw [hnx, List.flatten_append]
     simpa [entCells] using hfin
  ·
   refine .buildSlice (cs := [_]) hS (parts_cons (.of rfl) parts_nil) Tryz.underlying192 Tryz.sizeOf32 Tryz.zeroValue32 rfl rfl rfl rfl ?_
   clear hS; intro b38 w hS
   refine .nil ?_
   clear hH
   have hH : ∃ R, Sat B w J2 (blk b9 [I64 s.id, F64 s.ord, S s.urls, .bool s.login, .bool s.proxy, .bool s.back, S s.calls, .slice sa s.rel.length sc, .pointer (some pp), .pointer (some qq)] 155 :: blk b8 [I64 s.id, F64 s.ord, S s.urls, .bool s.login, .bool s.proxy, .bool s.back, S s.calls, .slice ra s.rel.length rc] 101 :: R) := ⟨_, ((hS.pick 2 rfl).pick 2 rfl)⟩
   refine And.intro (by intro _ _; exact hH) ?_
   refine WD.branch [2] (by kernel_rfl) rfl (WO.cons rfl ?_ (WO.nil))
   refine .buildSlice (cs := [_, _, _, _, _, _, _, _, _, _]) hS (parts_cons (.of rfl) parts_nil) Tryz.underlying152 Tryz.sizeOf155 Tryz.zeroValue155 rfl rfl rfl rfl ?_
   clear hS; intro b33 w hS
   refine .nil ?_
   clear hH
   have hH : ∃ R, Sat B w J2 (blk b9 [I64 s.id, F64 s.ord, S s.urls, .bool s.login, .bool s.proxy, .bool s.back, S s.calls, .slice sa s.rel.length sc, .pointer (some pp), .pointer (some qq)] 155 :: blk b8 [I64 s.id, F64 s.ord, S s.urls, .bool s.login, .bool s.proxy, .bool s.back, S s.calls, .slice ra s.rel.length rc] 101 :: R) := ⟨_, ((hS.pick 3 rfl).pick 3 rfl)⟩
   refine And.intro (by intro _ _; exact hH) ?_
   refine WD.branch [3] (by kernel_rfl) rfl (WO.cons rfl ?_ (WO.nil))
   refine WL.append (size := 10) (bytes := 96) hS (.of rfl) (.of rfl) (k := 3) rfl Tryz.underlying152 info155_89 rfl rfl rfl rfl rfl rfl rfl ⟨by omega, by unfold maxLen; omega⟩ rfl ?_
   clear hS; intro v34 w hS; try dsimp only [List.set] at hS
   obtain ⟨a34, c34, rfl, hcap34, _⟩ := hS.vecSlice (k := 3) (v := v34) rfl
   refine .nil ?_
   clear hH
   have hH : ∃ R, Sat B w J2 (blk b9 [I64 s.id, F64 s.ord, S s.urls, .bool s.login, .bool s.proxy, .bool s.back, S s.calls, .slice sa s.rel.length sc, .pointer (some pp), .pointer (some qq)] 155 :: blk b8 [I64 s.id, F64 s.ord, S s.urls, .bool s.login, .bool s.proxy, .bool s.back, S s.calls, .slice ra s.rel.length rc] 101 :: R) := ⟨_, ((hS.pick 2 rfl).pick 2 rfl)⟩
   refine And.intro (by intro _ _; exact hH) ?_
   refine WD.branch [8] (by kernel_rfl) rfl (WO.cons rfl ?_ (WO.nil))
   refine WL.append (size := 1) (bytes := 8) hS (.of rfl) (.of rfl) (k := 3) rfl Tryz.underlying192 info32_89 rfl rfl rfl rfl rfl rfl rfl ⟨by omega, by unfold maxLen; omega⟩ rfl ?_
   clear hS; intro v39 w hS; try dsimp only [List.set] at hS
   obtain ⟨a39, c39, rfl, hcap39, _⟩ := hS.vecSlice (k := 3) (v := v39) rfl
   refine .nil ?_
   clear hH
   have hH : ∃ R, Sat B w J2 (blk b9 [I64 s.id, F64 s.ord, S s.urls, .bool s.login, .bool s.proxy, .bool s.back, S s.calls, .slice sa s.rel.length sc, .pointer (some pp), .pointer (some qq)] 155 :: blk b8 [I64 s.id, F64 s.ord, S s.urls, .bool s.login, .bool s.proxy, .bool s.back, S s.calls, .slice ra s.rel.length rc] 101 :: R) := ⟨_, ((hS.pick 1 rfl).pick 1 rfl)⟩
   refine And.intro (by intro _ _; exact hH) ?_
   refine .takeP (i := 9) rfl (by kernel_rfl) (by kernel_rfl) (by kernel_rfl) (fun w => (.assign (.of rfl))) rfl (.takeP (i := 10) rfl (by kernel_rfl) (by kernel_rfl) (by kernel_rfl) (fun w => (.assign (.of rfl))) rfl (.done (by kernel_rfl) (.region (.run 2 rfl ⟨⟨by omega, by omega⟩, trivial⟩ (.nil ?_)))))
   have hfin := ((hS.drop (k := 0) rfl).drop (k := 0) rfl)
   refine ⟨(i + 1, J2, .slice a34 (i + 1) c34, .slice a39 (i + 1) c39, E ++ [entCells s sa sc pp qq]), ⟨rfl, rfl, rfl, rfl, rfl, trivial⟩, ⟨by (try dsimp only); omega, Le.trans hJ hJ2, by (try dsimp only); rw [List.length_append, hEl]; rfl, fun c hc => ?_, fun j u hu => ?_, fun j u hj hu => ?_, ?_⟩, by (try dsimp only); omega⟩
   ·rcases List.mem_append.1 hc with h | h
    ·exact h10 c h
    ·simp at h; subst h; rfl
   ·(try dsimp only at hu)
    rw [htn] at hu
    rcases Nat.lt_or_ge j i with h1 | h1
    ·rw [List.getElem?_append_left (by omega)] at hu
     obtain ⟨c, e1, e2⟩ := hEE j u hu
     exact ⟨c, by rw [List.getElem?_append_left (by omega)]; exact e1, e2.mono hJ2⟩
    ·rw [List.getElem?_append_right (by omega), hln] at hu
     have hj0 : j - i = 0 := by have := (List.getElem?_eq_some_iff.1 hu).1; simp at this; omega
     rw [hj0] at hu
     cases hu
     exact ⟨_, by rw [List.getElem?_append_right (by omega), hEl, hj0]; rfl, hent2⟩
   ·rcases Nat.lt_or_ge j i with h1 | h1
    ·exact hok j u h1 hu
    ·have e : j = i := by (try dsimp only at hj); omega
     subst e
     rw [hs] at hu; cases hu
     exact hbad0
   ·(try dsimp only)
    rw [hnx, List.flatten_append]
    simpa [entCells] using hfin
 have hc17 := hb17; try simp only [Gk.cs0] at hc17
 refine .exit (.seq ?_)
 have hin : i = l.length := by omega
 subst hin
 have hol : (ords l).length = l.length := List.length_map ..
 rw [List.take_of_length_le (Nat.le_refl _)] at hEE
 rw [List.take_of_length_le (by omega)] at hS
 obtain ⟨oa, oc, rfl, hoc, _⟩ := hS.vecSlice (k := 1) rfl
 obtain ⟨ea, ec, rfl, hec, _⟩ := hS.vecSlice (k := 0) rfl
 obtain ⟨J1, hJ1, hOR, hS1⟩ := hS.freezeVec (k := 1) rfl
 try dsimp only [List.eraseIdx] at hS1
 obtain ⟨J2, hJ2, hER, hS2⟩ := hS1.freezeVec (k := 0) rfl
 clear hS hS1
 have hS := hS2
 clear hS2
 try dsimp only [List.eraseIdx] at hS
 replace hJ := Le.trans hJ (Le.trans hJ1 hJ2)
 replace hOR := hOR.mono hJ2
 replace hEE := fun j s h => let ⟨c, h1, h2⟩ := hEE j s h; (⟨c, h1, EntAt.mono h2 (Le.trans hJ1 hJ2)⟩ : ∃ c, E[j]? = some c ∧ EntAt J2 s c)
 refine .region (.val (.build (cs := [_]) parts_nil bld157_89 rfl) rfl (.boxA (cs := [_]) hS (.of rfl) rfl ?_))
 clear hS; intro b42 w hS
 refine .run 1 rfl trivial (.nil (.seq (.seq ?_)))
 rw [← hol] at hOR ⊢
 refine .region (.run 1 rfl trivial (.call Tryz.func131 rfl (evs_cons (.of rfl) evs_nil) rfl (Order_any (ords l) hom (by omega) oa oc B _ J2 hOR _ hS) ?_))
 clear hS
 rintro _ w ⟨D, va, vc, rfl, hD, hS⟩
 obtain ⟨J3, hJ3, hDR, hS2⟩ := hS.freezeVec (k := 0) rfl
 clear hS
 have hS := hS2
 clear hS2
 try dsimp only [List.eraseIdx] at hS
 replace hJ := Le.trans hJ hJ3
 rw [hol] at hD hDR ⊢
 have hDl := hD.len
 refine .run 2 rfl ⟨⟨_, Tryz.underlying195⟩, trivial⟩ (.nil (.block ?_))
 replace hS := (hS.vecNil 155 10).pick 1 rfl
 try dsimp only [List.eraseIdx] at hS
 refine .loop (σ := Value × Nat) (fun ⟨kv, j⟩ => [(5, .slice ea l.length ec), (11, ptr b42 0), (44, .slice va l.length vc), (45, I64 (l.length : Nat)), (46, I64 (j : Nat))]) (fun ⟨kv, j⟩ w => j ≤ l.length ∧ Sat B w J3 (blk b42 [kv] 157 :: Vec 155 10 kv j (pickR E (D.take j)).flatten :: As)) (fun ⟨kv, j⟩ => l.length - j) (.slice none 0 0, 0) ⟨rfl, rfl, rfl, rfl, rfl, trivial⟩ ⟨Nat.zero_le _, hS⟩ ?_
 rintro ⟨kv, j⟩ w ⟨hj, hS⟩
 change WC _ _ _ _ [(5, .slice ea l.length ec), (11, ptr b42 0), (44, .slice va l.length vc), (45, I64 (l.length : Nat)), (46, I64 (j : Nat))] w
 refine .seq (.region (.run 1 rfl trivial (.nil (.seq ?_))))
 refine WC.cond rfl (fun hb47 => ?_) (fun hb47 => ?_)
 ·
  have hc47 := hb47; try simp only [Gk.cs0] at hc47
  refine .skip (.seq (.block (.seq ?_)))
  obtain ⟨d, hd⟩ : ∃ d, D[j]? = some d := ⟨_, List.getElem?_eq_getElem (by omega)⟩
  have hdm : d ∈ Srt.upto l.length := hD.2.mem_iff.1 (List.mem_of_getElem? hd)
  have hdr := Srt.upto_mem.1 hdm
  obtain ⟨s, hs⟩ : ∃ s, l[d.toNat]? = some s := ⟨_, List.getElem?_eq_getElem (by omega)⟩
  obtain ⟨c, hc, ra, rc, pp, qq, Q, T, rfl, hent⟩ := hEE d.toNat s hs
  obtain ⟨pe, rfl, hpe⟩ := (hER.mono hJ3).2 (by omega)
  have hx := at_take (hpe.add (d.toNat * 10)) 10
  rw [flat_piece E h10 d.toNat _ hc] at hx
  have hnr : (pickR E (D.take (j + 1))).flatten = (pickR E (D.take j)).flatten ++ entCells s ra rc pp qq := by
   unfold pickR
   rw [List.take_add_one, hd, List.map_append, List.flatten_append]
   simp [List.getD_eq_getElem?_getD, hc]
  unfold entCells at hx hnr
  obtain ⟨dp, rfl, hdp⟩ := hDR.2 (by omega)
  obtain ⟨ka, kc, rfl, hkc, _⟩ := hS.vecSlice (k := 1) rfl
  have hdx : ((D.map I64).drop ((j : Int).toNat * 1))[0]? = some (I64 d) := by rw [List.getElem?_drop, Int.toNat_natCast, Nat.mul_one, Nat.add_zero, List.getElem?_map, hd]; rfl
  refine .region (.val (.indexAddrI (.of rfl) (.of rfl) (by omega) (by omega) Tryz.underlying195 Tryz.sizeOf3) rfl (.val (.ldI (v := I64 d) (.of rfl) hS (hdp.add _) Tryz.isAgg3 hdx) rfl (.run 1 rfl trivial (.nil (.drawn (fun w => ∃ R, Sat B w J3 (blk b42 [.slice ka j kc] 157 :: R)) (fun j => !([13].contains j)) (by kernel_rfl) ?_)))))
  replace hS := hS.drew; generalize w.drew = w at hS ⊢
  have hH : ∃ R, Sat B w J3 (blk b42 [.slice ka j kc] 157 :: R) := ⟨_, (hS.pick 0 rfl)⟩
  refine .takeP (i := 0) rfl (by kernel_rfl) (by kernel_rfl) (by kernel_rfl) (fun w => (.move (.of rfl))) rfl (.takeP (i := 1) rfl (by kernel_rfl) (by kernel_rfl) (by kernel_rfl) (fun w => (.move (.of rfl))) rfl (.takeP (i := 2) rfl (by kernel_rfl) (by kernel_rfl) (by kernel_rfl) (fun w => (.nilCheck (.of rfl))) rfl (.takeP (i := 3) rfl (by kernel_rfl) (by kernel_rfl) (by kernel_rfl) (fun w => (.fieldAddr 0 (.of rfl) Tryz.underlying157 rfl rfl Tryz.sizeOf152 rfl)) rfl (.take (i := 4) rfl (by kernel_rfl) (by kernel_rfl) (by kernel_rfl) (by kernel_rfl) hH (fun w ⟨R, hS⟩ => (.ld (.of rfl) hS (k := 0) rfl Tryz.isAgg152 rfl)) rfl (.takeP (i := 5) rfl (by kernel_rfl) (by kernel_rfl) (by kernel_rfl) (fun w => (.move (.of rfl))) rfl (.takeP (i := 6) rfl (by kernel_rfl) (by kernel_rfl) (by kernel_rfl) (fun w => (.move (.of rfl))) rfl (.takeP (i := 7) rfl (by kernel_rfl) (by kernel_rfl) (by kernel_rfl) (fun w => (.indexAddrI (.of rfl) (.of rfl) (by omega) (by omega) Tryz.underlying152 Tryz.sizeOf155)) rfl (.take (i := 8) rfl (by kernel_rfl) (by kernel_rfl) (by kernel_rfl) (by kernel_rfl) hH (fun w ⟨R, hS⟩ => (.ldsI (.of rfl) hS hx Tryz.isAgg155 Tryz.sizeOf155 rfl (fun _ _ h => h))) rfl ?_))))))))
  refine WD.branch [9] (by kernel_rfl) rfl (WO.cons rfl ?_ (WO.nil))
  refine .buildSlice (cs := [_, _, _, _, _, _, _, _, _, _]) hS (parts_cons (.of rfl) parts_nil) Tryz.underlying152 Tryz.sizeOf155 Tryz.zeroValue155 rfl rfl rfl rfl ?_
  clear hS; intro b59 w hS
  refine .nil ?_
  clear hH
  have hH : ∃ R, Sat B w J3 (blk b42 [.slice ka j kc] 157 :: R) := ⟨_, (hS.pick 1 rfl)⟩
  refine And.intro (by intro _ _; exact hH) ?_
  refine WD.branch [10] (by kernel_rfl) rfl (WO.cons rfl ?_ (WO.nil))
  refine WL.append (size := 10) (bytes := 96) hS (.of rfl) (.of rfl) (k := 1) rfl Tryz.underlying152 info155_89 rfl rfl rfl rfl rfl rfl rfl ⟨by omega, by unfold maxLen; omega⟩ rfl ?_
  clear hS; intro v60 w hS; try dsimp only [List.set] at hS
  obtain ⟨a60, c60, rfl, hcap60, _⟩ := hS.vecSlice (k := 1) (v := v60) rfl
  refine .nil ?_
  clear hH
  have hH : ∃ R, Sat B w J3 (blk b42 [.slice ka j kc] 157 :: R) := ⟨_, (hS.pick 0 rfl)⟩
  refine And.intro (by intro _ _; exact hH) ?_
  refine .takeP (i := 11) rfl (by kernel_rfl) (by kernel_rfl) (by kernel_rfl) (fun w => (.nilCheck (.of rfl))) rfl (.takeP (i := 12) rfl (by kernel_rfl) (by kernel_rfl) (by kernel_rfl) (fun w => (.fieldAddr 0 (.of rfl) Tryz.underlying157 rfl rfl Tryz.sizeOf152 rfl)) rfl ?_)
  refine WD.branch [13] (by kernel_rfl) rfl (WO.cons rfl ?_ (WO.nil))
  refine .st1 hS (k := 0) rfl (.of rfl) (.of rfl) rfl Tryz.sizeOf152 (by simp) ?_
  clear hS; intro w hS; try dsimp only [List.set] at hS
  refine .nil ?_
  refine And.intro (by intro h; cases h) ?_
  refine .done (by kernel_rfl) (.region (.run 2 rfl ⟨⟨by omega, by omega⟩, trivial⟩ (.nil ?_)))
  refine ⟨(.slice a60 (j + 1) c60, j + 1), ⟨rfl, rfl, rfl, rfl, rfl, trivial⟩, ⟨by (try dsimp only); omega, ?_⟩, by (try dsimp only); omega⟩
  (try dsimp only)
  rw [hnr]; exact hS
 have hc47 := hb47; try simp only [Gk.cs0] at hc47
 refine .exit (.seq (.region (.run 4 rfl trivial (.nil (.ret (ret3 Tryz.results89 rfl rfl rfl ?_))))))
 have hjn : j = l.length := by omega
 subst hjn
 rw [List.take_of_length_le (by omega)] at hS
 obtain ⟨ka, kc, rfl, hkc, _⟩ := hS.vecSlice (k := 1) rfl
 obtain ⟨J4, hJ4, hKR, hS1⟩ := hS.freezeVec (k := 1) rfl
 try dsimp only [List.eraseIdx] at hS1
 obtain ⟨J5, hJ5, hb5, hS2⟩ := hS1.freeze (k := 0) rfl
 have hw : wrong l = (0, 0) := wrong_none (fun q t ht => hok q t (by have := (List.getElem?_eq_some_iff.1 ht).1; omega) ht)
 have hpl : (pickS l D).length = l.length := by unfold pickS; rw [List.length_map, hDl]
 refine ⟨_, rfl, J5, Le.trans hJ (Le.trans hJ4 hJ5), hS2, .inr ⟨by rw [hw], _, D, rfl, hD, ka, kc, pickR E D, ?_, by rw [hpl]; exact hkc, by unfold pickR pickS; rw [List.length_map, List.length_map], fun q s hq => ?_⟩⟩
 ·rw [hpl]
  exact ⟨rfl, _, _, _, hb5, fun q v hq => by simpa using hq⟩
 ·unfold pickS at hq
  rw [List.getElem?_map] at hq
  cases hdq : D[q]? with
  | none => rw [hdq] at hq; cases hq
  | some d =>
   rw [hdq] at hq
   have hdr := Srt.upto_mem.1 (hD.2.mem_iff.1 (List.mem_of_getElem? hdq))
   obtain ⟨u, hu⟩ : ∃ u, l[d.toNat]? = some u := ⟨_, List.getElem?_eq_getElem (by omega)⟩
   have hus : u = s := by
    have h2 := hq
    rw [Option.map_some, List.getD_eq_getElem?_getD, hu] at h2
    exact Option.some.inj h2
   subst hus
   obtain ⟨c, hc, hent⟩ := hEE d.toNat u hu
   have hql := (List.getElem?_eq_some_iff.1 hdq).1
   obtain ⟨kp, rfl, hkp⟩ := (hKR.mono hJ5).2 (by omega)
   have hpk : (pickR E D)[q]? = some c := by unfold pickR; rw [List.getElem?_map, hdq]; simp [List.getD_eq_getElem?_getD, hc]
   have h10' : ∀ c ∈ pickR E D, c.length = 10 := fun c hc => by
    unfold pickR at hc
    obtain ⟨d', hd', rfl⟩ := List.mem_map.1 hc
    have hdr' := Srt.upto_mem.1 (hD.2.mem_iff.1 hd')
    rw [List.getD_eq_getElem?_getD, List.getElem?_eq_getElem (by omega)]
    exact h10 _ (List.getElem_mem _)
   have hx := at_take (hkp.add (q * 10)) 10
   rw [flat_piece _ h10' q _ hpk] at hx
   exact ⟨kp, c, rfl, hpk, hx, hent.mono (Le.trans hJ3 (Le.trans hJ4 hJ5))⟩
end Go.Proofs.YtadhiihnnkcagaaGreatDoor
namespace Go.Proofs.YtadhiihnnkcagaaGreatDoor
open Gk Pat
set_option linter.unusedVariables false
set_option linter.unusedSimpArgs false
theorem bld101_40 : Bld Tryz.prog 101 [(0, 1), (1, 1), (2, 1), (3, 1), (4, 1), (5, 1), (6, 1), (7, 1)] [.int .i64 0, .float .f64 0, S [], .bool false, .bool false, .bool false, S [], .slice none 0 0] := bld_of Tryz.underlying101 Tryz.zeroValue101 (fun w => by simp [go_sem])
theorem firstI_case (pr : Sv → Bool) : ∀ (l : List Sv) (i : Nat), (firstI pr l i = -1 ∧ l.find? pr = none) ∨ (∃ j s, firstI pr l i = ((i + j : Nat) : Int) ∧ l[j]? = some s ∧ pr s = true ∧ l.find? pr = some s)
 | [], _ => .inl ⟨rfl, rfl⟩
 | a :: l, i => by
  rw [firstI, List.find?_cons]
  cases ha : pr a with
  | true => exact .inr ⟨0, a, rfl, rfl, ha, rfl⟩
  | false =>
   rw [if_neg (by decide)]
   rcases firstI_case pr l (i + 1) with ⟨h1, h2⟩ | ⟨j, s, h1, h2, h3, h4⟩
   ·exact .inl ⟨h1, h2⟩
   ·exact .inr ⟨j + 1, s, by rw [h1]; congr 1; omega, h2, h3, h4⟩
theorem firstI_zero (pr : Sv → Bool) (l : List Sv) : (firstI pr l 0 = -1 ∧ l.find? pr = none) ∨ (∃ (j : Nat) (s : Sv), firstI pr l 0 = (j : Int) ∧ l[j]? = some s ∧ pr s = true ∧ l.find? pr = some s) := by
 rcases firstI_case pr l 0 with h | ⟨j, s, h1, h2⟩
 ·exact .inl h
 ·exact .inr ⟨j, s, by rw [h1, Nat.zero_add], h2⟩
theorem mtch_mat {l : List UInt8} {Q : List Pl} (h : cmp l = .ok Q) (s : List UInt8) : (mtch l s).1 = mat Q s := by unfold mtch; rw [h]
def findR (lo : List Sv) (s : List UInt8) : Sv × List UInt8 × Nat :=
 if (Ul.nU s).2 ≠ 0 then (z0, [], (Ul.nU s).2) else if 100 < (Ul.nU s).1.length then (z0, [], 2)
 else match lo.find? (fun t => (mtch t.urls (Ul.nU s).1).1) with
  | none => (z0, [], 31)
  | some t => (t, (Ul.nU s).1, 0)
theorem RegFind_any (pr : Addr) (lo : List Sv) (hlo : lo.length ≤ 100000) (hrl : ∀ s ∈ lo, s.rel.length ≤ 1000000) (s : List UInt8) (hs : s.length ≤ 1000000) (a : Option Addr) (cc : Nat) (E : List (List Value)) (B w : World) (I : Im) (hK : Known I) (hreg : At I pr [.slice a lo.length cc]) (hE : EntsIn I a E lo) (As : List Assn) (hS : Sat B w I As) :
  Calls Tryz.prog 40 [.pointer (some pr), S s].toArray w (Ret fun v w' => ∃ J u c n e, Le I J ∧ v = .tuple #[.agg (List.toArray c), S n, I64 ((e : Nat) : Int)] ∧ SvAt J u c ∧ findR lo s = (u, n, e) ∧ Sat B w' J As) := by
 refine calls Tryz.func40 rfl Tryz.ntmps40 rfl (.seq (.region (.allocA (cs := [_, _, _, _, _, _, _, _]) hS Tryz.zeroValue101 rfl ?_)))
 clear hS; intro b4 w hS
 refine .run 2 rfl trivial (.nil (.seq (.region (.run 1 rfl trivial (.call Tryz.func63 rfl (evs_cons (.of rfl) evs_nil) rfl (uNormal_any s hs B _ I hK _ hS) ?_)))))
 clear hS
 rintro _ w ⟨rfl, hS⟩
 refine .run 3 rfl trivial (.alloc1 hS Tryz.zeroValue9 rfl rfl ?_)
 clear hS; intro b7 w hS
 refine .st1 hS (k := 0) rfl (.of rfl) (.of rfl) rfl Tryz.sizeOf9 (by simp) ?_
 clear hS; intro w hS; try dsimp only [List.set] at hS
 refine .run 1 rfl trivial (.nil (.seq (.seq (.region (.run 3 rfl trivial (.gval rfl rfl (fun hg1 => (.ld (.of rfl) hS (k := 0) rfl Tryz.isAgg9 rfl)) rfl (.gval rfl rfl (fun hg1 => (.len (.gd hg1 rfl) Tryz.underlying9)) rfl (.gval rfl rfl (fun hg1 => (.gtr (.gd hg1 rfl) (.of rfl))) rfl (.val (.pand (.of rfl) (.of rfl) (.of rfl)) rfl (.nil ?_))))))))))
 refine WC.cond rfl (fun hb21 => ?_) (fun hb21 => ?_)
 ·
  have hc21 := hb21; try simp only [Gk.cs0] at hc21
  refine .region (.run 1 rfl trivial (.nil (.seq (.seq (.region (.run 2 rfl trivial (.nil ?_)))))))
  refine WC.cond rfl (fun hb23 => ?_) (fun hb23 => by exfalso; simp only [Gk.cs0] at hb23; omega)
  have hc23 := hb23; try simp only [Gk.cs0] at hc23
  refine .seq (.region (.val (.build (cs := [_, _, _, _, _, _, _, _]) parts_nil bld101_40 rfl) rfl (.run 1 rfl trivial (.stA hS (k := 1) rfl (.of rfl) (.of rfl) rfl Tryz.sizeOf101 rfl (by simp) ?_))))
  clear hS; intro w hS; try dsimp only [List.set] at hS
  try simp only [List.take_zero, List.nil_append, List.append_nil, List.drop_succ_cons, List.drop_zero, List.drop_nil, Nat.zero_add] at hS
  refine .run 2 rfl trivial (.nil (.ret (ret3c (b := _) (cs := [_, _, _, _, _, _, _, _]) Tryz.results40 hS (k := 1) rfl Tryz.isAgg101 Tryz.sizeOf101 rfl rfl rfl rfl ?_)))
  exact ⟨_, rfl, I, z0, _, [], 2, Le.refl _, rfl, ⟨none, 0, rfl, Nat.le_refl _, RS.nil _ _⟩, (by unfold findR; rw [if_neg (by simp at hb21; omega), if_pos (by simp at hb21; omega)]), ((hS.drop (k := 0) rfl).drop (k := 0) rfl)⟩
 have hc21 := hb21; try simp only [Gk.cs0] at hc21
 refine .skip (.seq (.seq (.region (.run 2 rfl trivial (.nil ?_)))))
 refine WC.cond rfl (fun hb23 => ?_) (fun hb23 => ?_)
 ·
  have hc23 := hb23; try simp only [Gk.cs0] at hc23
  refine .seq (.region (.val (.build (cs := [_, _, _, _, _, _, _, _]) parts_nil bld101_40 rfl) rfl (.run 1 rfl trivial (.stA hS (k := 1) rfl (.of rfl) (.of rfl) rfl Tryz.sizeOf101 rfl (by simp) ?_))))
  clear hS; intro w hS; try dsimp only [List.set] at hS
  try simp only [List.take_zero, List.nil_append, List.append_nil, List.drop_succ_cons, List.drop_zero, List.drop_nil, Nat.zero_add] at hS
  refine .run 2 rfl trivial (.nil (.ret (ret3c (b := _) (cs := [_, _, _, _, _, _, _, _]) Tryz.results40 hS (k := 1) rfl Tryz.isAgg101 Tryz.sizeOf101 rfl rfl rfl rfl ?_)))
  exact ⟨_, rfl, I, z0, _, [], _, Le.refl _, rfl, ⟨none, 0, rfl, Nat.le_refl _, RS.nil _ _⟩, (by unfold findR; rw [if_pos (by omega)]), ((hS.drop (k := 0) rfl).drop (k := 0) rfl)⟩
 have hc23 := hb23; try simp only [Gk.cs0] at hc23
 refine .skip (.seq ?_)
 have hz : (Ul.nU s).2 = 0 := by omega
 have hn100 : (Ul.nU s).1.length ≤ 100 := by
  rw [hz] at hb21
  simp at hb21
  omega
 refine .region (.run 2 rfl trivial (.val (.fieldAddrI 0 (.of rfl) Tryz.underlying157 rfl rfl Tryz.sizeOf152 rfl) rfl (.val (.ldI (.of rfl) hS (At.add hreg _) Tryz.isAgg152 rfl) rfl (.val (.makeFunc (evs_cons (.of rfl) evs_nil)) rfl ?_))))
 refine WL.call Tryz.func85 rfl (evs_cons (.of rfl) (evs_cons (.of rfl) evs_nil)) rfl (IndexFunc_any a cc lo hlo (fun t => (mtch t.urls (Ul.nU s).1).1) 86 _ Tryz.func86 rfl [ptr b7 0] B _ I (blk b7 [S (Ul.nU s).1] 9 :: blk b4 [I64 0, F64 0, S [], .bool false, .bool false, .bool false, S [], .slice none 0 0] 101 :: As) (fun w h => hE.now h) (fun t c ht w h => by
  obtain ⟨ta, tc, tp, tq, Q, _, rfl, _, _, hQ, hpat, _⟩ := ht
  refine (findC_any hQ ta tc tp tq (Ul.nU s).1 (by omega) b7 B w I hpat _ h).mono fun e w' ⟨v, e1, e2, e3⟩ => ⟨v, e1, ?_, e3⟩
  rw [e2, mtch_mat hQ]) hS) ?_
 clear hS
 rintro _ w ⟨rfl, hS⟩
 refine .run 1 rfl trivial (.nil (.seq (.seq (.region (.run 2 rfl trivial (.nil ?_))))))
 refine WC.cond rfl (fun hb33 => ?_) (fun hb33 => ?_)
 ·
  have hc33 := hb33; try simp only [Gk.cs0] at hc33
  refine .seq (.region (.val (.build (cs := [_, _, _, _, _, _, _, _]) parts_nil bld101_40 rfl) rfl (.stA hS (k := 1) rfl (.of rfl) (.of rfl) rfl Tryz.sizeOf101 rfl (by simp) ?_)))
  clear hS; intro w hS; try dsimp only [List.set] at hS
  try simp only [List.take_zero, List.nil_append, List.append_nil, List.drop_succ_cons, List.drop_zero, List.drop_nil, Nat.zero_add] at hS
  refine .run 2 rfl trivial (.nil (.ret (ret3c (b := _) (cs := [_, _, _, _, _, _, _, _]) Tryz.results40 hS (k := 1) rfl Tryz.isAgg101 Tryz.sizeOf101 rfl rfl rfl rfl ?_)))
  exact ⟨_, rfl, I, z0, _, [], 31, Le.refl _, rfl, ⟨none, 0, rfl, Nat.le_refl _, RS.nil _ _⟩, (by
   have hno : lo.find? (fun t => (mtch t.urls (Ul.nU s).1).1) = none := by
    rcases firstI_zero (fun t => (mtch t.urls (Ul.nU s).1).1) lo with ⟨_, h⟩ | ⟨j, u, hj, _⟩
    ·exact h
    ·exfalso; rw [hj] at hc33; omega
   unfold findR
   rw [if_neg (by omega), if_neg (by omega), hno]), ((hS.drop (k := 0) rfl).drop (k := 0) rfl)⟩
 have hc33 := hb33; try simp only [Gk.cs0] at hc33
 refine .skip (.seq ?_)
 rcases firstI_zero (fun t => (mtch t.urls (Ul.nU s).1).1) lo with ⟨hneg, _⟩ | ⟨j, u, hj, hu, hpu, hfind⟩
 ·exfalso; rw [hneg] at hc33; omega
 rw [hj]
 obtain ⟨p, c, rfl, hc, hx0, ra, rc, pp, qq, Q, T, rfl, hrc, hrr, hQ, hpQ, hT, hpT⟩ := hE.2 j u hu
 have hjl := (List.getElem?_eq_some_iff.1 hu).1
 have hsm := hrl u (List.mem_of_getElem? hu)
 have hx := at_take hx0 8
 simp only [entCells, List.take_succ_cons, List.take_zero] at hx
 refine .drawn (fun w => ∃ J9 R, Le I J9 ∧ Sat B w J9 (blk b7 [S (Ul.nU s).1] 9 :: R)) (fun j => !([].contains j)) (by kernel_rfl) ?_
 replace hS := hS.drew; generalize w.drew = w at hS ⊢
 have hH : ∃ J9 R, Le I J9 ∧ Sat B w J9 (blk b7 [S (Ul.nU s).1] 9 :: R) := ⟨_, _, Le.refl _, (hS.pick 0 rfl)⟩
 refine .takeP (i := 0) rfl (by kernel_rfl) (by kernel_rfl) (by kernel_rfl) (fun w => (.move (.of rfl))) rfl (.takeP (i := 1) rfl (by kernel_rfl) (by kernel_rfl) (by kernel_rfl) (fun w => (.nilCheck (.of rfl))) rfl (.takeP (i := 2) rfl (by kernel_rfl) (by kernel_rfl) (by kernel_rfl) (fun w => (.fieldAddrI 0 (.of rfl) Tryz.underlying157 rfl rfl Tryz.sizeOf152 rfl)) rfl (.take (i := 3) rfl (by kernel_rfl) (by kernel_rfl) (by kernel_rfl) (by kernel_rfl) hH (fun w ⟨J9, R, hL9, hS⟩ => (.ldI (.of rfl) hS (At.add (hreg.mono hL9) _) Tryz.isAgg152 rfl)) rfl (.takeP (i := 4) rfl (by kernel_rfl) (by kernel_rfl) (by kernel_rfl) (fun w => (.move (.of rfl))) rfl (.takeP (i := 5) rfl (by kernel_rfl) (by kernel_rfl) (by kernel_rfl) (fun w => (.indexAddrI (.of rfl) (.of rfl) (by omega) (by omega) Tryz.underlying152 Tryz.sizeOf155)) rfl (.takeP (i := 6) rfl (by kernel_rfl) (by kernel_rfl) (by kernel_rfl) (fun w => (.fieldAddrI 0 (.of rfl) Tryz.underlying155 rfl rfl Tryz.sizeOf101 rfl)) rfl (.take (i := 7) rfl (by kernel_rfl) (by kernel_rfl) (by kernel_rfl) (by kernel_rfl) hH (fun w ⟨J9, R, hL9, hS⟩ => (.ldsI (.of rfl) hS (hx.mono hL9) Tryz.isAgg101 Tryz.sizeOf101 rfl (fun _ _ h => h))) rfl (.take (i := 9) rfl (by kernel_rfl) (by kernel_rfl) (by kernel_rfl) (by kernel_rfl) hH (fun w ⟨J9, R, hL9, hS⟩ => (.ld (.of rfl) hS (k := 0) rfl Tryz.isAgg9 rfl)) rfl ?_))))))))
 refine WD.branch [8] (by kernel_rfl) rfl (WO.cons rfl ?_ (WO.nil))
 refine .call Tryz.func88 rfl (evs_cons (.of rfl) evs_nil) rfl (own_svc u ra rc hsm B _ I hrr _ hS) ?_
 clear hS
 rintro _ w ⟨J2, cs, hJ2, rfl, hsv, hS⟩
 obtain ⟨sa, sc, rfl, hq1, hq2⟩ := hsv
 have hsv : SvAt J2 u (svCells u sa sc) := ⟨sa, sc, rfl, hq1, hq2⟩
 refine .nil ?_
 clear hH
 have hH : ∃ J9 R, Le I J9 ∧ Sat B w J9 (blk b7 [S (Ul.nU s).1] 9 :: R) := ⟨_, _, hJ2, (hS.pick 0 rfl)⟩
 refine And.intro (by intro _ _; exact hH) ?_
 refine WD.branch [10] (by kernel_rfl) rfl (WO.cons rfl ?_ (WO.nil))
 refine .stA hS (k := 1) rfl (.of rfl) (.of rfl) rfl Tryz.sizeOf101 rfl (by simp) ?_
 clear hS; intro w hS; try dsimp only [List.set] at hS
 try simp only [List.take_zero, List.nil_append, List.append_nil, List.drop_succ_cons, List.drop_zero, List.drop_nil, Nat.zero_add] at hS
 refine .nil ?_
 clear hH
 have hH : ∃ J9 R, Le I J9 ∧ Sat B w J9 (blk b7 [S (Ul.nU s).1] 9 :: R) := ⟨_, _, hJ2, (hS.pick 0 rfl)⟩
 refine And.intro (by intro _ _; exact hH) ?_
 refine .takeP (i := 11) rfl (by kernel_rfl) (by kernel_rfl) (by kernel_rfl) (fun w => (.assign (.of rfl))) rfl (.takeP (i := 12) rfl (by kernel_rfl) (by kernel_rfl) (by kernel_rfl) (fun w => (.assign (.of rfl))) rfl (.done (by kernel_rfl) (.ret (ret3c (b := _) (cs := [_, _, _, _, _, _, _, _]) Tryz.results40 hS (k := 1) rfl Tryz.isAgg101 Tryz.sizeOf101 rfl rfl rfl rfl ?_))))
 exact ⟨_, rfl, J2, u, _, (Ul.nU s).1, 0, hJ2, rfl, hsv, (by unfold findR; rw [if_neg (by omega), if_neg (by omega), hfind]), ((hS.drop (k := 0) rfl).drop (k := 0) rfl)⟩
end Go.Proofs.YtadhiihnnkcagaaGreatDoor
namespace Go.Proofs.YtadhiihnnkcagaaGreatDoor
open Gk Ul Pc Tk Tr
set_option linter.unusedVariables false
set_option linter.unusedSimpArgs false
theorem info5_138 : Tryz.prog.info? 5 = some Tryz.t5 := by kernel_rfl
theorem Ex.indexU {P : Program} {n : Nat} {L : Env} {w : World} {d : Option Nat} {ty t : TypeId} {pos : String} {af : Array Edge} {g : Option (Nat × Bool)} {x y : Operand} {l : List UInt8} {i : Nat} {c : UInt8} (hx : Ev n L x (S l)) (hy : Ev n L y (U64 i)) (hc : l[i]? = some c) (hT : P.underlying t = some .string) : Ex P n L w ⟨d, .index t x y, ty, pos, af, g⟩ (U8 c.toNat) w :=
 fun a ha => by
  have h1 : i < l.length := (List.getElem?_eq_some_iff.1 hc).1
  have h2 := (List.getElem?_eq_some_iff.1 hc).2
  have h3 : 0 ≤ (i : Int) ∧ (i : Int) < ((ByteArray.size ⟨l.toArray⟩ : Nat) : Int) := ⟨by omega, by show (i : Int) < (l.length : Int); omega⟩
  have h := run_index_string (P := P) w t ⟨l.toArray⟩ .u64 i hT
  rw [dif_pos h3] at h
  have h4 : (⟨l.toArray⟩ : ByteArray)[((i : Nat) : Int).toNat]'(by show ((i : Nat) : Int).toNat < l.length; omega) = c := h2
  rw [h4] at h
  simp [execOp, hx a ha, hy a ha, h]
theorem Ex.bytesStr {P : Program} {n : Nat} {L : Env} {B w : World} {I : Im} {As : List Assn} {k : Nat} {ty : TypeId} {pos : String} {af : Array Edge} {g : Option (Nat × Bool)} {x : Operand} {d : Option Nat} {src dst E : TypeId} {b o cap m : Nat} {l : List UInt8} {cs : List Value} (hx : Ev n L x (.slice (some (ad b o)) m cap)) (hm : l.length = m) (hS : Sat B w I As) (hk : As[k]? = some (blk b cs E)) (hs : P.underlying src = some (.slice E)) (he : P.underlying E = some (.int .u8)) (hd : P.underlying dst = some .string)
  (hc : ∀ j (hj : j < l.length), cs[o + j]? = some (U8 (l[j].toNat : Int))) : Ex P n L w ⟨d, .convert src dst x, ty, pos, af, g⟩ (S l) w := fun a ha => by
 subst hm
 have hb := hS.block hk
 have h := run_convert_bytes_back (P := P) w src dst E (ad b o) cap l hs he hd (fun j hj => by rw [add_ad]; exact cell_own hb (hc j hj))
 simp [execOp, hx a ha, h]
theorem shr_hex (d i : Nat) : ((d : Nat) : Int) / 2 ^ (4 * (i : Int)).toNat = ((d / 16 ^ i : Nat) : Int) := by
 rw [show (4 * (i : Int)).toNat = 4 * i by omega, show (16 : Nat) ^ i = 2 ^ (4 * i) by rw [Nat.pow_mul], Int.natCast_ediv, Int.natCast_pow]
 rfl
theorem preI_le (k : Int) : (preI k).length ≤ 6 := by
 unfold preI
 split
 ·simp
 ·rename_i h
  have : k = 1 ∨ k = 2 ∨ k = 3 ∨ k = 4 ∨ k = 5 ∨ k = 6 := by omega
  rcases this with e | e | e | e | e | e <;> (subst e; decide)
def dg (n : Nat) : UInt8 := if n < 10 then UInt8.ofNat (48 + n) else UInt8.ofNat (87 + n)
theorem hex_dg {n : Nat} (h : n < 16) : HEXD[n]? = some (dg n) := (by decide : ∀ n : Fin 16, HEXD[n.val]? = some (dg n.val)) ⟨n, h⟩
theorem digs_cons : ∀ (k n : Nat), digs (k + 1) n = dg (n / 16 ^ k % 16) :: digs k n
 | 0, n => by simp [digs, dg]
 | k + 1, n => by
  rw [digs, digs_cons k (n / 16), Nat.div_div_eq_div_mul, ← Nat.pow_succ', List.cons_append, digs]
theorem set_rep {α : Type} (z v : α) (X : List α) : ∀ n : Nat, (List.replicate (n + 1) z ++ X).set n v = List.replicate n z ++ v :: X
 | 0 => rfl
 | n + 1 => by
  rw [List.replicate_succ, List.cons_append, List.set_cons_succ, set_rep z v X n]
  rfl
def lay (i d : Nat) : List Value := List.replicate (16 - i) (U8 0) ++ bcs (digs i d)
theorem lay_len {i d : Nat} (h : i ≤ 16) : (lay i d).length = 16 := by
 unfold lay
 rw [List.length_append, List.length_replicate, List.length_map, digs_len]; omega
theorem lay_set {i d : Nat} (h : i < 16) : (lay i d).set (15 - i) (U8 (dg (d / 16 ^ i % 16)).toNat) = lay (i + 1) d := by
 unfold lay
 rw [show 16 - i = (15 - i) + 1 by omega, set_rep, show 16 - (i + 1) = 15 - i by omega, digs_cons]
 rfl
theorem lay_get {d j : Nat} {D : List UInt8} (h : digs 16 d = D) (hj : j < D.length) : (lay 16 d)[0 + j]? = some (U8 (D[j].toNat : Int)) := by
 have e : lay 16 d = bcs D := by unfold lay; rw [h]; rfl
 rw [e, Nat.zero_add, List.getElem?_map, List.getElem?_eq_getElem hj]
 rfl
theorem Name_any (kind : Int) (d : Nat) (hd : d < 18446744073709551616) (B w : World) (I : Im) (hP : PreAt I) (As : List Assn) (hS : Sat B w I As) :
  Calls Tryz.prog 138 [I64 kind, U64 (d : Nat)].toArray w (Ret fun v w' => v = (if preI kind = [] then .tuple #[S [], I64 8] else .tuple #[S (preI kind ++ 45 :: digs 16 d), I64 0]) ∧ Sat B w' I As) := by
 refine calls Tryz.func138 rfl Tryz.ntmps138 rfl (.seq (.region (.run 2 rfl trivial (.nil (.seq (.region (.run 1 rfl trivial (.call Tryz.func137 rfl (evs_cons (.of rfl) evs_nil) rfl (Prefix_any kind B _ I hP _ hS) ?_))))))))
 clear hS
 rintro _ w ⟨rfl, hS⟩
 refine .run 1 rfl trivial (.nil (.seq (.seq (.region (.run 2 rfl trivial (.nil ?_))))))
 refine WC.cond rfl (fun hb12 => ?_) (fun hb12 => ?_)
 ·
  have hc12 := hb12; try simp only [Gk.cs0] at hc12
  refine .seq (.region (.run 2 rfl trivial (.nil (.ret (ret2 Tryz.results138 rfl rfl ?_)))))
  exact ⟨_, rfl, by rw [if_pos (by simpa using hb12)], hS⟩
 have hc12 := hb12; try simp only [Gk.cs0] at hc12
 refine .skip (.seq (.region ?_))
 refine WL.make (l := 16) hS (.of rfl) (.of rfl) Tryz.underlying214 info5_138 rfl (by simp [Tryz.t5] <;> omega) (by omega) rfl rfl rfl ?_
 clear hS; intro b13 w hS
 refine .run 1 rfl trivial (.nil (.seq (.seq ?_)))
 replace hS : Sat B w I (blk b13 (lay 0 d) 5 :: As) := hS
 refine .region (.run 3 rfl ⟨⟨_, Tryz.underlying214⟩, trivial⟩ (.nil (.block (.loop (σ := Nat) (fun i => [(1, U64 (d : Nat)), (6, S (preI kind)), (7, .slice (some (ad b13 0)) 16 16), (15, I64 16), (16, I64 (i : Nat))]) (fun i w => i ≤ 16 ∧ Sat B w I (blk b13 (lay i d) 5 :: As)) (fun i => 16 - i) 0 ⟨rfl, rfl, rfl, rfl, rfl, trivial⟩ ⟨Nat.zero_le _, hS⟩ ?_))))
 rintro i w ⟨hi, hS⟩
 change WC _ _ _ _ [(1, U64 (d : Nat)), (6, S (preI kind)), (7, .slice (some (ad b13 0)) 16 16), (15, I64 16), (16, I64 (i : Nat))] w
 refine .seq (.region (.run 1 rfl trivial (.nil (.seq ?_))))
 refine WC.cond rfl (fun hb17 => ?_) (fun hb17 => ?_)
 ·
  have hc17 := hb17; try simp only [Gk.cs0] at hc17
  refine .skip (.seq (.block (.seq (.region (.run 2 rfl trivial (.nil (.region (.run 6 rfl ⟨⟨by omega, by omega⟩, ⟨by omega, by omega⟩, trivial⟩ ?_))))))))
  refine WL.val (.shr (.of rfl) (.of rfl) (by omega) (by show (4 * (i : Int)) ≤ 64; omega)) rfl ?_
  rw [shr_hex d i]
  refine .val (.and64 (a := d / 16 ^ i) (b := 15) (Nat.lt_of_le_of_lt (Nat.div_le_self _ _) hd) (by omega) (.of rfl) (.of rfl)) rfl ?_
  rw [show (d / 16 ^ i) &&& 15 = d / 16 ^ i % 16 from Nat.and_two_pow_sub_one_eq_mod _ 4]
  refine .val (Ex.indexU (l := HEXD) (.of rfl) (.of rfl) (hex_dg (Nat.mod_lt _ (by decide))) Tryz.underlying9) rfl ?_
  first | refine WL.val (.indexAddr (.of rfl) (.of rfl) (by omega) (by omega) Tryz.underlying214 Tryz.sizeOf5) rfl ?_ | refine WL.val (.indexAddrI (.of rfl) (.of rfl) (by omega) (by omega) Tryz.underlying214 Tryz.sizeOf5) rfl ?_
  refine WL.st1 hS (k := 0) rfl (.of rfl) (.of rfl) rfl Tryz.sizeOf5 (by rw [lay_len hi]; omega) ?_
  clear hS; intro w hS; try dsimp only [List.set] at hS
  rw [show 0 + (15 - (i : Int)).toNat * 1 = 15 - i by omega, lay_set (show i < 16 by omega)] at hS
  refine .nil (.region (.run 2 rfl ⟨⟨by omega, by omega⟩, trivial⟩ (.nil ?_)))
  refine ⟨i + 1, ⟨rfl, rfl, rfl, rfl, rfl, trivial⟩, ⟨by (try dsimp only); omega, hS⟩, by (try dsimp only); omega⟩
 have hc17 := hb17; try simp only [Gk.cs0] at hc17
 refine .exit (.seq ?_)
 have h16 : i = 16 := by omega
 subst h16
 have hpl := preI_le kind
 have hdl := digs_len 16 d
 generalize hdg : digs 16 d = D at *
 refine .region ?_
 refine WL.run 3 rfl ⟨by (try simp only [List.length_append, List.length_cons, List.length_nil]); omega, trivial⟩ ?_
 refine .val (Ex.bytesStr (l := D) (o := 0) (.of rfl) hdl hS (k := 0) rfl Tryz.underlying214 Tryz.underlying5 Tryz.underlying9 (fun j hj => lay_get hdg hj)) rfl ?_
 refine WL.run 3 rfl ⟨by (try simp only [List.length_append, List.length_cons, List.length_nil]); omega, trivial⟩ ?_
 refine .nil (.ret (ret2 Tryz.results138 rfl rfl ?_))
 exact ⟨_, rfl, by rw [if_neg (by simpa using hb12), List.append_assoc]; rfl, hS.drop (k := 0) rfl⟩
end Go.Proofs.YtadhiihnnkcagaaGreatDoor
namespace Gk
set_option linter.unusedVariables false
set_option linter.unusedSimpArgs false
open Go
def VecO (E : TypeId) (v : Value) (xs : List Value) : Assn := fun h =>
 (v = .slice none 0 0 ∧ xs = [] ∧ h = []) ∨
  (∃ g cs p, v = .slice (some p) 0 0 ∧ xs = [] ∧ h = [(g, cellsO cs E)]) ∨ ∃ g cap ys rest, v = .slice (some ⟨g, List.length ys, none⟩) xs.length cap ∧ h = [(g, cellsO (ys ++ xs ++ rest) E)] ∧ xs.length ≤ cap ∧ cap ≤ maxLen ∧ xs.length + rest.length = cap
section
variable {P : Program} {B w w' : World} {I : Im} {As : List Assn} {k : Nat} {E : TypeId} {v : Value} {xs : List Value}
theorem Sat.vecoNil (hS : Sat B w I As) (E : Nat) : Sat B w I (VecO E (.slice none 0 0) [] :: As) := by
 obtain ⟨h, hs, hg⟩ := hS
 exact ⟨h, ⟨[], h, rfl, .inl ⟨rfl, rfl, rfl⟩, hs⟩, hg⟩
theorem Sat.vecoSlice (hS : Sat B w I As) (hk : As[k]? = some (VecO E v xs)) : ∃ a c, v = .slice a xs.length c ∧ xs.length ≤ c ∧ (xs ≠ [] → ∃ p, a = some p) :=
 hS.pure_ hk fun _ hh => by
  rcases hh with ⟨rfl, rfl, _⟩ | ⟨_, _, p, rfl, rfl, _⟩ | ⟨g, cap, ys, rest, rfl, _, h3, _⟩
  ·exact ⟨none, 0, rfl, Nat.le_refl _, fun h => absurd rfl h⟩
  ·exact ⟨some p, 0, rfl, Nat.le_refl _, fun h => absurd rfl h⟩
  ·exact ⟨_, _, rfl, h3, fun _ => ⟨_, rfl⟩⟩
theorem Sat.vecoCons {x : Value} (hS : Sat B w I As) (hk : As[k]? = some (VecO E v (x :: xs))) : ∃ g off c, v = .slice (some ⟨g, off, none⟩) (xs.length + 1) c ∧ xs.length + 1 ≤ c :=
 hS.pure_ hk fun _ hh => by
  rcases hh with ⟨_, h, _⟩ | ⟨_, _, _, _, h, _⟩ | ⟨g, cap, ys, rest, rfl, _, h3, _⟩
  ·cases h
  ·cases h
  ·exact ⟨_, _, _, rfl, h3⟩
theorem Sat.vecoAt {p : Addr} {m c : Nat} (hS : Sat B w I As) (hk : As[k]? = some (VecO E (.slice (some p) m c) xs)) {j : Nat} {u : Value} (hu : xs[j]? = some u) : w.cell? (p.add j) = some u := by
 obtain ⟨g, hs, hg⟩ := hS
 obtain ⟨h1, h2, hp, ha, hset, _⟩ := hs.at_ hk
 rcases ha with ⟨hv, _⟩ | ⟨_, _, _, _, h, _⟩ | ⟨b, cap, ys, rest, hv, rfl, h3, h4, h5⟩
 ·cases hv
 ·subst h; simp at hu
 ·injection hv with hv1 hv2 hv3
  injection hv1 with hv1
  subst hv1
  have hb : w.heap[b]? = some (cellsO (ys ++ xs ++ rest) E) := (hg.perm hp).own b _ (by simp)
  rw [show (⟨b, ys.length, none⟩ : Addr).add j = ad b (ys.length + j) from add_ad b ys.length j]
  refine cell_own hb ?_
  have hj := (List.getElem?_eq_some_iff.1 hu).1
  rw [List.append_assoc, List.getElem?_append_right (by omega), Nat.add_sub_cancel_left, List.getElem?_append_left hj]
  exact hu
theorem Sat.vecoCut {g off n c : Nat} {x : Value} (hS : Sat B w I As) (hk : As[k]? = some (VecO E (.slice (some ⟨g, off, none⟩) n c) (x :: xs))) : Sat B w I (As.set k (VecO E (sliced (some ⟨g, off, none⟩) 1 n c 1) xs)) :=
 hS.say hk fun _ hh => by
  rcases hh with ⟨hv, _⟩ | ⟨_, _, _, _, h, _⟩ | ⟨b, cap, ys, rest, hv, rfl, h3, h4, h5⟩
  ·cases hv
  ·cases h
  ·injection hv with hv1 hv2 hv3
   injection hv1 with hv1
   injection hv1 with hv1 hv4
   subst hv1; subst hv3; subst hv4
   simp only [List.length_cons] at h3 h5 hv2
   by_cases h0 : c = 1
   ·have e : xs = [] := List.eq_nil_of_length_eq_zero (by omega)
    subst e
    refine .inr <| .inl ⟨g, _, ⟨g, ys.length, none⟩, ?_, rfl, rfl⟩
    unfold sliced
    rw [if_pos h0, hv2, h0]
    rfl
   ·refine .inr <| .inr ⟨g, c - 1, ys ++ [x], rest, ?_, by simp, by omega, by omega, by omega⟩
    unfold sliced
    rw [if_neg h0, hv2, List.length_append]
    rfl
theorem run_append_roomO (w : World) (t ty e : TypeId) (i : TypeInfo) (ht : P.underlying t = some (.slice e)) (hi : P.info? e = some i)
  (g off sLen sCap : Nat) (cur : Array Value) (hg : w.heap[g]? = some (.cells cur e (0, 0)))
  (a : Addr) (m c : Nat) (news : List Value) (hl : news.length = m * i.size) (hnews : ∀ j u, news[j]? = some u → w.cell? (a.add j) = some u) (h1 : ∀ u ∈ news, u.oneCell' = true)
  (hroom : sLen + m ≤ sCap) (hfit : off + sLen * i.size + news.length ≤ cur.size) :
  (Builtin.append_ #[t, t] ty #[.slice (some ⟨g, off, none⟩) sLen sCap, .slice (some a) m c]).run P w =
   .ok (.slice (some ⟨g, off, none⟩) (sLen + m) sCap) (w.setRow g (cur.toList.take (off + sLen * i.size) ++ news ++ cur.toList.drop (off + sLen * i.size + news.length)).toArray) := by
 have hf := run_firstCells_some (P := P) w i.size m a m c news hl hnews
 have hst := run_storeCells_at P g (off + sLen * i.size) e news 0 cur w hg (by simpa using hfit) h1
 simp only [Nat.add_zero] at hst
 simp [Builtin.append_, run_underlying ht, Go.sizeOf, typeInfo, hi, Builtin.lenOf, hroom, hf, Addr.add_lit, hst]
theorem zc_len (z : Array Value) (hz : z.size = 1) (n : Nat) : (Builtin.zeroCells z n).toList.length = n := by rw [Array.length_toList, size_zeroCells, hz, Nat.mul_one]
theorem run_append_vecO (hS : Sat B w I As) {t ty : TypeId} {i : TypeInfo} {z : Value} {bytes : Nat} (ht : P.underlying t = some (.slice E)) (hi : P.info? E = some i) (hz : i.zero = some z)
  (hsize : i.size = 1) (hby : i.bytes = bytes) (hzs : z.cells.size = 1) (hk : As[k]? = some (VecO E v xs)) {p : Addr} {m c : Nat} {news : List Value} (hl : news.length = m) (hm : 0 < m)
  (hnews : ∀ j u, news[j]? = some u → w.cell? (p.add j) = some u) (h1 : ∀ u ∈ news, u.oneCell' = true) (h63 : xs.length + m ≤ maxLen) (hbytes : (xs.length + m) * bytes ≤ 140737488355328) :
  ∃ v' w', (Builtin.append_ #[t, t] ty #[v, .slice (some p) m c]).run P w = .ok v' w' ∧ Sat B w' I (As.set k (VecO E v' (xs ++ news))) := by
 subst hby
 have hlk : k < As.length := (List.getElem?_eq_some_iff.1 hk).1
 have hsmall : xs.length + m ≤ 9223372036854775807 := by simp only [maxLen] at h63; omega
 have fresh : ∀ (xs : List Value) (old : Nat), xs.length + m ≤ maxLen → ∀ (As' : List Assn), Sat B w I As' → k < As'.length → Sat B (w.drew.alloc (.cells (xs.toArray ++ news.toArray ++ Builtin.zeroCells z.cells (grownCap w (xs.length + m) old E - (xs.length + m))) E)) I
   (As'.set k (VecO E (.slice (some ⟨w.heap.size, 0, none⟩) (xs.length + m) (grownCap w (xs.length + m) old E)) (xs ++ news))) := by
  intro xs old h63 As' hS hlk
  obtain ⟨A0, hk⟩ : ∃ A0, As'[k]? = some A0 := ⟨_, List.getElem?_eq_getElem hlk⟩
  have hge := grownCap_ge w (xs.length + m) old E
  have hcm : grownCap w (xs.length + m) old E ≤ maxLen := grownCap_le_maxLen w (xs.length + m) old E h63
  have hS2 := hS.drew.alloc (.cells (xs.toArray ++ news.toArray ++ Builtin.zeroCells z.cells (grownCap w (xs.length + m) old E - (xs.length + m))) E)
  have e1 : (own w.drew.heap.size (.cells (xs.toArray ++ news.toArray ++ Builtin.zeroCells z.cells (grownCap w (xs.length + m) old E - (xs.length + m))) E)) = blk w.heap.size ((xs ++ news) ++ (Builtin.zeroCells z.cells (grownCap w (xs.length + m) old E - (xs.length + m))).toList) E := by
   unfold blk cellsO
   congr 2
   apply Array.ext'
   simp
  rw [e1] at hS2
  have hS3 := hS2.say (k := 0) (A' := VecO E (.slice (some ⟨w.heap.size, 0, none⟩) (xs.length + m) (grownCap w (xs.length + m) old E)) (xs ++ news)) rfl (fun _ hh => .inr <| .inr ⟨w.heap.size, _, [], _, by rw [List.length_append, hl]; rfl, by rw [List.nil_append]; exact hh, by rw [List.length_append, hl]; exact hge, hcm, by
   rw [List.length_append, hl, zc_len _ hzs]; omega⟩)
  obtain ⟨h, hs, hg⟩ := hS3
  obtain ⟨q1, q2, rfl, hq1, hq2⟩ := hs
  obtain ⟨h1', h2', hp, _, hset, _⟩ := SepAll.at_ hk hq2
  obtain ⟨h', hs', hp'⟩ := hset _ q1 hq1
  have g := hg.perm (hp.append_left q1)
  have : (q1 ++ (h1' ++ h2')).Perm ((q1 ++ h2') ++ h1') := by
   rw [List.append_assoc]
   exact (List.perm_append_comm).append_left q1
  exact ⟨h', hs', (g.perm this).left.perm hp'.symm⟩
 obtain ⟨g, hs, hg⟩ := hS
 obtain ⟨h1', h2', hp, ha, hset, _⟩ := hs.at_ hk
 rcases ha with ⟨rfl, rfl, _⟩ | ⟨_, _, q, rfl, rfl, _⟩ | ⟨b, cap, ys, rest, rfl, rfl, h3, h4, h5⟩
 ·have hr := run_append_nil (P := P) w t ty E i z ht hi hz p m c news (by rw [hsize, hl, Nat.mul_one]) hnews hm (by simp only [List.length_nil, Nat.zero_add] at hsmall; omega) (by have hb := hbytes; simp only [List.length_nil, Nat.zero_add] at hb; omega)
  have hgr := fresh [] 0 (by simpa using h63) As ⟨g, hs, hg⟩ hlk
  simp only [List.length_nil, Nat.zero_add, List.nil_append, Array.empty_append] at hgr ⊢
  exact ⟨_, _, hr, hgr⟩
 ·have hr := run_append_grow (P := P) w t ty E i z ht hi hz q 0 0 [] (by simp) (fun j u hu => by simp at hu) p m c news (by rw [hsize, hl, Nat.mul_one]) hnews (by omega) (by simp only [List.length_nil, Nat.zero_add] at hsmall; omega) (growslice_fits (by omega) (by simpa using hbytes))
  have hgr := fresh [] 0 (by simpa using h63) As ⟨g, hs, hg⟩ hlk
  simp only [List.length_nil, Nat.zero_add, List.nil_append, Array.empty_append] at hgr hr ⊢
  exact ⟨_, _, hr, hgr⟩
 ·obtain ⟨h', hs', hp'⟩ := hset (blk b (ys ++ xs ++ rest) E) _ rfl
  have hSo : Sat B w I (As.set k (blk b (ys ++ xs ++ rest) E)) := ⟨h', hs', hg.perm (hp.trans hp'.symm)⟩
  have hko : (As.set k (blk b (ys ++ xs ++ rest) E))[k]? = some (blk b (ys ++ xs ++ rest) E) := by simp [hlk]
  have hblk := hSo.block hko
  by_cases hroom : xs.length + m ≤ cap
  ·have hr := run_append_roomO (P := P) w t ty E i ht hi b ys.length xs.length cap (ys ++ xs ++ rest).toArray hblk p m c news (by rw [hsize, hl, Nat.mul_one]) hnews h1 hroom (by
    simp only [List.size_toArray, List.length_append, hsize]; omega)
   have e2 : ((ys ++ xs ++ rest).take (ys.length + xs.length * i.size) ++ news ++ (ys ++ xs ++ rest).drop (ys.length + xs.length * i.size + news.length)).toArray = (ys ++ (xs ++ news) ++ rest.drop news.length).toArray := by
    rw [hsize, Nat.mul_one, ← List.length_append, List.take_left, List.drop_append, List.drop_of_length_le (by omega : (ys ++ xs).length ≤ (ys ++ xs).length + news.length)]
    simp
   rw [e2] at hr
   refine ⟨_, _, hr, ?_⟩
   have hw := hSo.write (w' := w.setRow b (ys ++ (xs ++ news) ++ rest.drop news.length).toArray) (o' := cellsO (ys ++ (xs ++ news) ++ rest.drop news.length) E) hko rfl rfl rfl (setRow_heap w b _ _ E _ hblk) (fun x hx => setRow_other w b x _ hx)
   have hsh := hw.say (k := k) (A := own b (cellsO (ys ++ (xs ++ news) ++ rest.drop news.length) E)) (A' := VecO E (.slice (some ⟨b, ys.length, none⟩) (xs.length + m) cap) (xs ++ news)) (by simp [hlk]) (fun _ hh => .inr <| .inr ⟨b, cap, ys, rest.drop news.length, by rw [List.length_append, hl], hh, by rw [List.length_append, hl]; exact hroom, h4, by
    rw [List.length_append, List.length_drop]; omega⟩)
   simpa using hsh
  ·have holds : ∀ j u, xs[j]? = some u → w.cell? ((⟨b, ys.length, none⟩ : Addr).add j) = some u := fun j u hu => by
    rw [show (⟨b, ys.length, none⟩ : Addr).add j = ad b (ys.length + j) from add_ad b ys.length j]
    refine cell_own hblk ?_
    have hj := (List.getElem?_eq_some_iff.1 hu).1
    rw [List.append_assoc, List.getElem?_append_right (by omega), Nat.add_sub_cancel_left, List.getElem?_append_left hj]
    exact hu
   have hr := run_append_grow (P := P) w t ty E i z ht hi hz ⟨b, ys.length, none⟩ xs.length cap xs (by rw [hsize, Nat.mul_one]) holds p m c news (by rw [hsize, hl, Nat.mul_one]) hnews (by omega) (by omega) (growslice_fits (by omega) hbytes)
   exact ⟨_, _, hr, fresh xs cap h63 As ⟨g, hs, hg⟩ hlk⟩
theorem WL.appendO {n d : Nat} {K : Kont} {L : Env} {ops : Array Oper} {rest : List Oper} {ty : TypeId} {pos : String} {af : Array Edge} {t : TypeId} {x y : Operand} {m c : Nat} {a : Option Addr} {news : List Value} {i : TypeInfo} {z : Value} {bytes : Nat} (hS : Sat B w I As) (hx : Ev n L x v) (hy : Ev n L y (.slice a m c)) (hr : RS I a 1 m news)
  (hk : As[k]? = some (VecO E v xs)) (ht : P.underlying t = some (.slice E)) (hi : P.info? E = some i) (hz : i.zero = some z) (hsize : i.size = 1) (hby : i.bytes = bytes) (hzs : z.cells.size = 1)
  (h1 : news.all Value.oneCell' = true) (h63 : (xs.length + m) * bytes ≤ 140737488355328 ∧ xs.length + m ≤ maxLen) (hd : Nat.blt d n = true)
  (h : ∀ v' w', Sat B w' I (As.set k (VecO E v' (xs ++ news))) → WL P n ops K rest ((d, v') :: L) w') :
  WL P n ops K (⟨some d, .call ⟨.builtin .append, #[x, y], #[t, t]⟩, ty, pos, af, none⟩ :: rest) L w := by
 rcases Nat.eq_zero_or_pos m with h0 | h0
 ·subst h0
  have hy0 : news = [] := List.eq_nil_of_length_eq_zero (by simpa using hr.1)
  subst hy0
  obtain ⟨a0, c0, rfl, hc0, _⟩ := hS.vecoSlice hk
  have hr : (Builtin.append_ #[t, t] ty #[.slice a0 xs.length c0, .slice a 0 c]).run P w = .ok (.slice a0 xs.length c0) w := by
   cases a0 <;> cases a <;> simp [Builtin.append_, run_underlying ht, Go.sizeOf, typeInfo, hi, Builtin.lenOf, Builtin.firstCells, loadCells, loadCellsFrom, storeCells, hc0]
  have hlk : k < As.length := (List.getElem?_eq_some_iff.1 hk).1
  have h2 := h (.slice a0 xs.length c0) w (by
   have : As.set k (VecO E (.slice a0 xs.length c0) (xs ++ [])) = As := by
    rw [List.append_nil]
    have := (List.getElem?_eq_some_iff.1 hk).2
    rw [← this, List.set_getElem_self]
   rw [this]; exact hS)
  refine WL.val (v := .slice a0 xs.length c0) (w' := w) (fun a ha => ?_) hd h2
  simp [execOp, resolve, invoke, builtin, hx a ha, hy a ha, hr]
 ·obtain ⟨p, rfl, hA⟩ := hr.2 h0
  obtain ⟨v', w', hr', hS'⟩ := run_append_vecO (P := P) (ty := ty) hS ht hi hz hsize hby hzs hk (p := p) (m := m) (c := c) (by have := hr.1; omega) h0 (fun j u hu => cell_at hS hA hu) (List.all_eq_true.1 h1) h63.2 h63.1
  refine WL.val (v := v') (w' := w') (fun a ha => ?_) hd (h _ _ hS')
  simp [execOp, resolve, invoke, builtin, hx a ha, hy a ha, hr']
end
end Gk
namespace Go.Proofs.YtadhiihnnkcagaaGreatDoor
open Gk Ul Pc Tk Tr
set_option linter.unusedVariables false
set_option linter.unusedSimpArgs false
theorem bld168_55 : Bld Tryz.prog 168 [(0, 1)] [.slice none 0 0] := bld_of Tryz.underlying168 Tryz.zeroValue168 (fun w => by simp [go_sem])
theorem u64_one (l : List Nat) : (l.map fun d => U64 (d : Nat)).all Value.oneCell' = true := by
 rw [List.all_map]
 exact List.all_eq_true.2 fun _ _ => rfl
theorem Feed_any (mb : Nat) (ma : Option Addr) (mc : Nat) (D : List Nat) (hD : D.length ≤ 1000000) (a : Option Addr) (c : Nat) (l : List Nat) (hl : l.length ≤ 1000000) (B w : World) (I : Im) (hr : RS I a 1 l.length (l.map fun d => U64 (d : Nat))) (As : List Assn) (hS : Sat B w I (blk mb [.slice ma D.length mc] 168 :: VecO 118 (.slice ma D.length mc) (D.map fun d => U64 (d : Nat)) :: As)) :
  Calls Tryz.prog 42 [ptr mb 0, .slice a l.length c].toArray w (Ret fun v w' => v = .tuple #[] ∧ ∃ a c, Sat B w' I (blk mb [.slice a (D ++ l).length c] 168 :: VecO 118 (.slice a (D ++ l).length c) ((D ++ l).map fun d => U64 (d : Nat)) :: As)) := by
 refine calls Tryz.func42 rfl Tryz.ntmps42 rfl (.region (.run 3 rfl trivial ?_))
 first | refine WL.val (.fieldAddr 0 (.of rfl) Tryz.underlying168 rfl rfl Tryz.sizeOf81 rfl) rfl ?_ | refine WL.val (.fieldAddrI 0 (.of rfl) Tryz.underlying168 rfl rfl Tryz.sizeOf81 rfl) rfl ?_
 first | refine WL.val (.ld (.of rfl) hS (k := 0) rfl Tryz.isAgg81 rfl) rfl ?_ | refine WL.val (.ld (.of rfl) hS (k := 1) rfl Tryz.isAgg81 rfl) rfl ?_
 refine .run 1 rfl trivial ?_
 refine WL.appendO (bytes := 8) hS (.of rfl) (.of rfl) hr (k := 1) rfl Tryz.underlying81 (i := Tryz.t118) (by kernel_rfl) rfl rfl rfl rfl (u64_one l) ⟨by rw [List.length_map]; omega, by rw [List.length_map]; unfold maxLen; omega⟩ rfl ?_
 clear hS; intro v10 w hS; try dsimp only [List.set] at hS
 obtain ⟨a10, c10, rfl, hc10, _⟩ := hS.vecoSlice (k := 1) rfl
 refine .run 1 rfl trivial ?_
 first | refine WL.val (.fieldAddr 0 (.of rfl) Tryz.underlying168 rfl rfl Tryz.sizeOf81 rfl) rfl ?_ | refine WL.val (.fieldAddrI 0 (.of rfl) Tryz.underlying168 rfl rfl Tryz.sizeOf81 rfl) rfl ?_
 first | refine WL.st1 hS (k := 0) rfl (.of rfl) (.of rfl) rfl Tryz.sizeOf81 (by simp) ?_ | refine WL.st1 hS (k := 1) rfl (.of rfl) (.of rfl) rfl Tryz.sizeOf81 (by simp) ?_
 clear hS; intro w hS; try dsimp only [List.set] at hS
 refine .nil (end0 Tryz.results42 ?_)
 refine ⟨_, rfl, rfl, a10, c10, ?_⟩
 rw [← List.map_append, List.length_map] at hS
 exact hS
theorem CloneU_nil (B w : World) (I : Im) (As : List Assn) (hS : Sat B w I As) :
  Calls Tryz.prog 136 [.slice none 0 0].toArray w (Ret fun v w' => v = .slice none 0 0 ∧ Sat B w' I As) := by
 refine calls Tryz.func136 rfl Tryz.ntmps136 rfl (.seq (.region (.run 1 rfl trivial (.nil (.seq (.seq (.region (.run 1 rfl trivial (.val (Ex.slNil (.of rfl) (.of rfl) Tryz.underlying81) rfl (.nil (.condT (rfl) (.seq (.region (.run 1 rfl trivial (.nil (.ret (ret1 Tryz.results136 rfl ?_)))))))))))))))))
 exact ⟨_, rfl, rfl, hS⟩
theorem mintNew_any (B w : World) (I : Im) (As : List Assn) (hS : Sat B w I As) :
  Calls Tryz.prog 93 [.slice none 0 0].toArray w (Ret fun v w' => ∃ mb, v = ptr mb 0 ∧ Sat B w' I (blk mb [.slice none (([] : List Nat)).length 0] 168 :: VecO 118 (.slice none (([] : List Nat)).length 0) ((([] : List Nat)).map fun d => U64 (d : Nat)) :: As)) := by
 refine calls Tryz.func93 rfl Tryz.ntmps93 rfl (.seq (.region (.run 1 rfl trivial (.nil (.seq (.region (.run 1 rfl trivial (.call Tryz.func136 rfl (evs_cons (.of rfl) evs_nil) rfl (CloneU_nil B _ I _ hS) ?_))))))))
 clear hS
 rintro _ w ⟨rfl, hS⟩
 refine .val (.build (cs := [_]) (parts_cons (.of rfl) parts_nil) bld168_55 rfl) rfl (.boxA (cs := [_]) hS (.of rfl) rfl ?_)
 clear hS; intro b6 w hS
 refine .run 1 rfl trivial (.nil (.ret (ret1 Tryz.results93 rfl ?_)))
 exact ⟨_, rfl, _, rfl, (hS.vecoNil 118).pick 1 rfl⟩
def nextT (pr : List UInt8 → Bool) (kind : Int) (D : List Nat) : (List UInt8 × Nat) × List Nat :=
 if preI kind = [] then (([], 8), D) else match D with
 | [] => (([], 6), [])
 | d :: D => if pr (preI kind ++ 45 :: digs 16 d) then (([], 7), D) else ((preI kind ++ 45 :: digs 16 d, 0), D)
theorem Next_any (mb : Nat) (ma : Option Addr) (mc : Nat) (D : List Nat) (hD : ∀ d ∈ D, d < 18446744073709551616) (kind : Int) (pr : List UInt8 → Bool) (fid : FuncId) (fn : Func) (hfn : Tryz.prog.funcs[fid]? = some fn) (hcal : callable fn = true) (capv : List Value) (B w : World) (I : Im) (hP : PreAt I) (As : List Assn) (hf : ∀ (M : List Assn) (s : List UInt8) w, Sat B w I (M ++ As) → Calls Tryz.prog fid ([S s] ++ capv).toArray w (Ret fun v w' => v = .bool (pr s) ∧ Sat B w' I (M ++ As))) (hS : Sat B w I (blk mb [.slice ma D.length mc] 168 :: VecO 118 (.slice ma D.length mc) (D.map fun d => U64 (d : Nat)) :: As)) :
  Calls Tryz.prog 98 [ptr mb 0, I64 kind, .func (.func fid) #[] capv.toArray].toArray w (Ret fun v w' => v = .tuple #[S (nextT pr kind D).1.1, I64 ((nextT pr kind D).1.2 : Nat)] ∧ ∃ a c, Sat B w' I (blk mb [.slice a ((nextT pr kind D).2).length c] 168 :: VecO 118 (.slice a ((nextT pr kind D).2).length c) (((nextT pr kind D).2).map fun d => U64 (d : Nat)) :: As)) := by
 refine calls Tryz.func98 rfl Tryz.ntmps98 rfl (.seq (.region (.run 2 rfl trivial (.nil (.seq (.block (.seq (.region (.run 1 rfl trivial (.call Tryz.func137 rfl (evs_cons (.of rfl) evs_nil) rfl (Prefix_any kind B _ I hP _ hS) ?_))))))))))
 clear hS
 rintro _ w ⟨rfl, hS⟩
 refine .run 2 rfl trivial (.nil ?_)
 refine WC.cond rfl (fun hb10 => ?_) (fun hb10 => ?_)
 ·
  have hc10 := hb10; try simp only [Gk.cs0] at hc10
  refine .seq (.region (.run 2 rfl trivial (.nil (.ret (ret2 Tryz.results98 rfl rfl ?_)))))
  have e : nextT pr kind D = (([], 8), D) := by unfold nextT; rw [if_pos (by simpa using hb10)]
  rw [e]
  exact ⟨_, rfl, rfl, ma, mc, hS⟩
 have hc10 := hb10; try simp only [Gk.cs0] at hc10
 refine .seq (.region (.run 2 rfl trivial ?_))
 first | refine WL.val (.fieldAddr 0 (.of rfl) Tryz.underlying168 rfl rfl Tryz.sizeOf81 rfl) rfl ?_ | refine WL.val (.fieldAddrI 0 (.of rfl) Tryz.underlying168 rfl rfl Tryz.sizeOf81 rfl) rfl ?_
 first | refine WL.val (.ld (.of rfl) hS (k := 0) rfl Tryz.isAgg81 rfl) rfl ?_ | refine WL.val (.ld (.of rfl) hS (k := 1) rfl Tryz.isAgg81 rfl) rfl ?_
 refine .run 3 rfl ⟨⟨_, Tryz.underlying81⟩, trivial⟩ (.nil ?_)
 refine WC.cond rfl (fun hb14 => ?_) (fun hb14 => ?_)
 ·
  have hc14 := hb14; try simp only [Gk.cs0] at hc14
  refine .seq (.region (.run 2 rfl trivial (.nil (.ret (ret2 Tryz.results98 rfl rfl ?_)))))
  obtain rfl : D = [] := by
   cases D with
   | nil => rfl
   | cons d D => exfalso; simp at hb14; omega
  have e : nextT pr kind [] = (([], 6), []) := by unfold nextT; rw [if_neg (by simpa using hb10)]
  rw [e]
  exact ⟨_, rfl, rfl, ma, mc, hS⟩
 have hc14 := hb14; try simp only [Gk.cs0] at hc14
 refine .skip (.seq ?_)
 have hk0 : ¬ preI kind = [] := by simpa using hb10
 obtain ⟨d, D, rfl⟩ : ∃ d D', D = d :: D' := by
  cases D with
  | nil => simp at hb14
  | cons d D' => exact ⟨d, D', rfl⟩
 obtain ⟨mg, mo, mc2, hv, hmc⟩ := hS.vecoCons (k := 1) rfl
 injection hv with hv1 hv2 hv3
 subst hv1; subst hv3
 have hx := hS.vecoAt (k := 1) rfl (j := 0) (u := U64 (d : Nat)) rfl
 simp only [List.length_map] at hmc
 refine .region (.run 3 rfl trivial ?_)
 first | refine WL.val (.fieldAddr 0 (.of rfl) Tryz.underlying168 rfl rfl Tryz.sizeOf81 rfl) rfl ?_ | refine WL.val (.fieldAddrI 0 (.of rfl) Tryz.underlying168 rfl rfl Tryz.sizeOf81 rfl) rfl ?_
 first | refine WL.val (.ld (.of rfl) hS (k := 0) rfl Tryz.isAgg81 rfl) rfl ?_ | refine WL.val (.ld (.of rfl) hS (k := 1) rfl Tryz.isAgg81 rfl) rfl ?_
 first | refine WL.val (.indexAddr (.of rfl) (.of rfl) (by omega) (by omega) Tryz.underlying81 Tryz.sizeOf118) rfl ?_ | refine WL.val (.indexAddrI (.of rfl) (.of rfl) (by omega) (by omega) Tryz.underlying81 Tryz.sizeOf118) rfl ?_
 refine .val (ldC (.of rfl) hx Tryz.isAgg118) rfl (.call Tryz.func138 rfl (evs_cons (.of rfl) (evs_cons (.of rfl) evs_nil)) rfl (Name_any kind d (hD d (by simp)) B _ I hP _ hS) ?_)
 clear hS
 rintro _ w ⟨rfl, hS⟩
 rw [if_neg hk0]
 refine .run 5 rfl trivial (.nil (.seq (.region (.run 3 rfl trivial ?_))))
 first | refine WL.val (.fieldAddr 0 (.of rfl) Tryz.underlying168 rfl rfl Tryz.sizeOf81 rfl) rfl ?_ | refine WL.val (.fieldAddrI 0 (.of rfl) Tryz.underlying168 rfl rfl Tryz.sizeOf81 rfl) rfl ?_
 first | refine WL.val (.ld (.of rfl) hS (k := 0) rfl Tryz.isAgg81 rfl) rfl ?_ | refine WL.val (.ld (.of rfl) hS (k := 1) rfl Tryz.isAgg81 rfl) rfl ?_
 refine WL.val (.slcFrom (s := 1) (.of rfl) (.of rfl) (by omega) (by simp only [List.length_cons]; omega) Tryz.underlying81 Tryz.sizeOf118) rfl ?_
 replace hS := hS.vecoCut (k := 1) rfl
 try dsimp only [List.set] at hS
 refine .run 1 rfl trivial ?_
 first | refine WL.val (.fieldAddr 0 (.of rfl) Tryz.underlying168 rfl rfl Tryz.sizeOf81 rfl) rfl ?_ | refine WL.val (.fieldAddrI 0 (.of rfl) Tryz.underlying168 rfl rfl Tryz.sizeOf81 rfl) rfl ?_
 first | refine WL.st1 hS (k := 0) rfl (.of rfl) (.of rfl) rfl Tryz.sizeOf81 (by simp) ?_ | refine WL.st1 hS (k := 1) rfl (.of rfl) (.of rfl) rfl Tryz.sizeOf81 (by simp) ?_
 clear hS; intro w hS; try dsimp only [List.set] at hS
 refine .nil (.seq (.seq (.region (.run 2 rfl trivial (.vcall (cap := capv) hfn hcal (.of rfl) (evs_cons (.of rfl) evs_nil) rfl (hf [_, _] _ w hS) ?_)))))
 clear hS
 rintro _ w ⟨rfl, hS⟩
 refine .nil ?_
 refine WC.cond rfl (fun hb42 => ?_) (fun hb42 => ?_)
 ·
  have hc42 := hb42; try simp only [Gk.cs0] at hc42
  refine .seq (.region (.run 2 rfl trivial (.nil (.ret (ret2 Tryz.results98 rfl rfl ?_)))))
  have e : nextT pr kind (d :: D) = (([], 7), D) := by unfold nextT; rw [if_neg hk0]; exact if_pos hb42
  rw [e]
  exact ⟨_, rfl, rfl, _, _, hS⟩
 have hc42 := hb42; try simp only [Gk.cs0] at hc42
 refine .skip (.seq (.region (.run 3 rfl trivial (.nil (.ret (ret2 Tryz.results98 rfl rfl ?_))))))
 have e : nextT pr kind (d :: D) = ((preI kind ++ 45 :: digs 16 d, 0), D) := by unfold nextT; rw [if_neg hk0]; exact if_neg (by rw [hb42]; decide)
 rw [e]
 exact ⟨_, rfl, rfl, _, _, hS⟩
end Go.Proofs.YtadhiihnnkcagaaGreatDoor
namespace Go.Proofs.YtadhiihnnkcagaaGreatDoor
open Gk Ul Pc Tk Tr
set_option linter.unusedVariables false
set_option linter.unusedSimpArgs false
theorem bld45_178 : Bld Tryz.prog 45 [(0, 1), (1, 1), (2, 1), (3, 1), (4, 1), (5, 1), (6, 1), (7, 1), (8, 1), (9, 1)] [.int .i64 0, S [], S [], S [], S [], S [], .int .i64 0, .int .i64 0, .int .i64 0, .bool false] := bld_of Tryz.underlying45 Tryz.zeroValue45 (fun w => by simp [go_sem])
def psL (p : Nat → Int) : List Int := [p 0, p 1, p 2, p 3, p 4, p 5, p 6, p 7, p 8, p 9, p 10, p 11, p 12, p 13, p 14, p 15, p 16, p 17, p 18, p 19, p 20]
structure Wp where
 wb : Nat
 tb : Nat
 mb : Nat
 ub : Nat
 pr : Addr
 lo : List Sv
 us : List Us
 ps : Nat → Int
structure Wd where
 room : Int
 l : List Rec
 D : List Nat
 now : Int
def wdC (p : Wp) (ω : Wd) : List Value := ptr p.tb 0 :: ptr p.mb 0 :: .pointer (some p.pr) :: ptr p.ub 0 :: ((psL p.ps).map I64 ++ [I64 ω.now])
def wdT (p : Wp) (ω : Wd) : Option Addr × Nat × Option Addr × Nat → List Assn := fun ⟨a, c, ma, mc⟩ => [blk p.wb (wdC p ω) 52, blk p.tb [I64 ω.room, .slice a ω.l.length c] 127, Vec 45 10 (.slice a ω.l.length c) ω.l.length (rowsR ω.l), blk p.mb [.slice ma ω.D.length mc] 168, VecO 118 (.slice ma ω.D.length mc) (ω.D.map fun d => U64 (d : Nat))]
def wdA (p : Wp) (ω : Wd) : Assn := Box (wdT p ω)
structure WpOk (I : Im) (p : Wp) : Prop where
 reg : RegAt I p.pr p.lo
 tab : TabAt I p.ub p.us
 lo : p.lo.length ≤ 100000
 rel : ∀ s ∈ p.lo, s.rel.length ≤ 1000000
 fit : ∀ u ∈ p.us, u.fits
 att : ∀ u ∈ p.us, u.attrs.length ≤ 8
 known : Known I
 pre : PreAt I
theorem RegAt.mono {I J : Im} {pr : Addr} {lo : List Sv} (h : RegAt I pr lo) (hl : Le I J) : RegAt J pr lo := by
 obtain ⟨a, c, E, h1, h2, h3⟩ := h
 exact ⟨a, c, E, h1.mono hl, h2, h3.mono hl⟩
theorem WpOk.mono {I J : Im} {p : Wp} (h : WpOk I p) (hl : Le I J) : WpOk J p := ⟨h.reg.mono hl, h.tab.mono hl, h.lo, h.rel, h.fit, h.att, h.known.mono hl, h.pre.mono hl⟩
structure WdOk (ω : Wd) : Prop where
 len : ω.l.length ≤ 64
 wf : Wf ω.l
 D : ∀ d ∈ ω.D, d < 18446744073709551616
 now : 0 ≤ ω.now ∧ ω.now ≤ 1099511627776
 room : ω.room ≤ 64
theorem Sat.swap {B w : World} {I : Im} {M As : List Assn} (hS : Sat B w I (M ++ As)) : Sat B w I (As ++ M) := by
 obtain ⟨h, hs, hg⟩ := hS
 obtain ⟨h1, h2, rfl, h3, h4⟩ := SepAll.app.1 hs
 exact ⟨h2 ++ h1, SepAll.app.2 ⟨h2, h1, rfl, h4, h3⟩, hg.perm List.perm_append_comm⟩
def badN (n : Int) : Bool := decide (n < 0) || decide (1099511627776 < n)
def iC (n : Int) : List Value := [I64 n]
def rightP (p : Nat → Int) : Bool := (!((psL p).take 7).any badN && !(((psL p).drop 7).take 7).any badN) && !((psL p).drop 14).any badN
theorem rows_blk {B w : World} {I : Im} {As : List Assn} {k b E : Nat} {cs : List Value} {o : Nat} {l : List Int} (hS : Sat B w I As) (hk : As[k]? = some (blk b cs E)) (h : ∀ (i : Nat) n, l[i]? = some n → cs[o + i]? = some (I64 n)) : RowsW w iC 1 (some (ad b o)) l := fun i n hn => by
 refine ⟨_, rfl, fun j v hj => ?_⟩
 have hb := hS.block (b := b) (o := cellsO cs E) hk
 match j, hj with
 | 0, hj =>
  cases hj
  rw [add_ad, add_ad]
  refine cell_own hb ?_
  rw [Nat.mul_one]
  exact h i n hn
 | j + 1, hj => simp [iC] at hj
theorem IndexFuncI_any (a : Option Addr) (cap : Nat) (l : List (Int)) (hln : l.length ≤ 9223372036854775807) (pr : Int → Bool) (fid : FuncId) (fn : Func) (hfn : Tryz.prog.funcs[fid]? = some fn) (hcal : callable fn = true) (capv : List Value) (B w : World) (I : Im) (As : List Assn) (hE : ∀ w, Sat B w I As → RowsW w iC 1 a l) (hf : ∀ (r : Int) (hr : r ∈ l) w, Sat B w I As → Calls Tryz.prog fid ([I64 r] ++ capv).toArray w (Ret fun v w' => v = .bool (pr r) ∧ Sat B w' I As)) (hS : Sat B w I As) :
  Calls Tryz.prog 178 [.slice a l.length cap, .func (.func fid) #[] capv.toArray].toArray w (Ret fun v w' => v = I64 (firstR pr l 0) ∧ Sat B w' I As) := by
 refine calls Tryz.func178 rfl Tryz.ntmps178 rfl (.seq (.region (.run 1 rfl trivial (.nil (.seq (.seq (.region (.run 3 rfl ⟨⟨_, Tryz.underlying195⟩, trivial⟩ (.nil (.block (.loop (σ := Nat) (fun i => [(0, .slice a l.length cap), (1, .func (.func fid) #[] capv.toArray), (7, I64 (l.length : Nat)), (8, I64 (i : Nat))]) (fun i w => i ≤ l.length ∧ (∀ (j : Nat) t, j < i → l[j]? = some t → pr t = false) ∧ Sat B w I As) (fun i => l.length - i) 0 ⟨rfl, rfl, rfl, rfl, trivial⟩ ⟨Nat.zero_le _, fun _ _ h => absurd h (by omega), hS⟩ ?_)))))))))))
 rintro i w ⟨hi, hno, hS⟩
 change WC _ _ _ _ [(0, .slice a l.length cap), (1, .func (.func fid) #[] capv.toArray), (7, I64 (l.length : Nat)), (8, I64 (i : Nat))] w
 refine .seq (.region (.run 1 rfl trivial (.nil (.seq ?_))))
 refine WC.cond rfl (fun hb9 => ?_) (fun hb9 => ?_)
 ·
  have hc9 := hb9; try simp only [Gk.cs0] at hc9
  refine .skip (.seq (.block (.seq ?_)))
  obtain ⟨r, hr⟩ : ∃ r, l[i]? = some r := ⟨_, List.getElem?_eq_getElem (by omega)⟩
  obtain ⟨p, rfl, hx⟩ := hE w hS i r hr
  refine .region (.run 2 rfl trivial (.nil (.seq (.region (.run 3 rfl trivial ?_)))))
  first | refine WL.val (.indexAddr (.of rfl) (.of rfl) (by omega) (by omega) Tryz.underlying195 Tryz.sizeOf3) rfl ?_ | refine WL.val (.indexAddrI (.of rfl) (.of rfl) (by omega) (by omega) Tryz.underlying195 Tryz.sizeOf3) rfl ?_
  refine WL.val (.ld1 (.of rfl) (by have h9 := hx 0 _ rfl; simpa [Addr.add_add] using h9) Tryz.isAgg3) rfl ?_
  refine .vcall (cap := capv) hfn hcal (.of rfl) (evs_cons (.of rfl) evs_nil) rfl (hf r (List.mem_of_getElem? hr) w hS) ?_
  clear hS
  rintro _ w ⟨rfl, hS⟩
  refine .nil ?_
  refine WC.cond rfl (fun hb16 => ?_) (fun hb16 => ?_)
  ·
   have hc16 := hb16; try simp only [Gk.cs0] at hc16
   refine .seq (.region (.run 2 rfl trivial (.nil (.ret (ret1 Tryz.results178 rfl ?_)))))
   exact ⟨_, rfl, by rw [firstR_hit hno hr hb16], hS⟩
  have hc16 := hb16; try simp only [Gk.cs0] at hc16
  refine .skip (.region (.run 2 rfl ⟨⟨by omega, by omega⟩, trivial⟩ (.nil ?_)))
  refine ⟨i + 1, ⟨rfl, rfl, rfl, rfl, trivial⟩, ⟨by (try dsimp only); omega, fun j t hj ht => ?_, hS⟩, by (try dsimp only); omega⟩
  rcases Nat.lt_or_ge j i with h1 | h1
  ·exact hno j t h1 ht
  ·have e : j = i := by omega
   subst e
   rw [hr] at ht; cases ht
   exact hb16
 have hc9 := hb9; try simp only [Gk.cs0] at hc9
 refine .exit (.seq (.region (.run 1 rfl trivial (.nil (.ret (ret1 Tryz.results178 rfl ?_))))))
 exact ⟨_, rfl, by rw [firstR_none (fun j t ht => hno j t (by have := (List.getElem?_eq_some_iff.1 ht).1; omega) ht)], hS⟩
theorem ContainsFuncI_any (a : Option Addr) (cap : Nat) (l : List (Int)) (hln : l.length ≤ 9223372036854775807) (pr : Int → Bool) (fid : FuncId) (fn : Func) (hfn : Tryz.prog.funcs[fid]? = some fn) (hcal : callable fn = true) (capv : List Value) (B w : World) (I : Im) (As : List Assn) (hE : ∀ w, Sat B w I As → RowsW w iC 1 a l) (hf : ∀ (r : Int) (hr : r ∈ l) w, Sat B w I As → Calls Tryz.prog fid ([I64 r] ++ capv).toArray w (Ret fun v w' => v = .bool (pr r) ∧ Sat B w' I As)) (hS : Sat B w I As) :
  Calls Tryz.prog 135 [.slice a l.length cap, .func (.func fid) #[] capv.toArray].toArray w (Ret fun v w' => v = .bool (l.any pr) ∧ Sat B w' I As) := by
 refine calls Tryz.func135 rfl Tryz.ntmps135 rfl (.seq (.region (.run 1 rfl trivial (.nil (.seq (.region (.run 2 rfl trivial (.call Tryz.func178 rfl (evs_cons (.of rfl) (evs_cons (.of rfl) evs_nil)) rfl (IndexFuncI_any a cap l hln pr fid fn hfn hcal capv B _ I As hE hf hS) ?_))))))))
 clear hS
 rintro _ w ⟨rfl, hS⟩
 refine .run 2 rfl trivial (.nil (.ret (ret1 Tryz.results135 rfl ?_)))
 exact ⟨_, rfl, by rw [← firstR_any pr l 0], hS⟩
theorem badN_any (n : Int) (B w : World) (I : Im) (As : List Assn) (hS : Sat B w I As) :
  Calls Tryz.prog 134 [I64 n].toArray w (Ret fun v w' => v = .bool (badN n) ∧ Sat B w' I As) := by
 refine calls Tryz.func134 rfl Tryz.ntmps134 rfl (.seq (.region (.run 1 rfl trivial (.nil (.seq (.region (.run 3 rfl trivial (.gval rfl rfl (fun hg1 => (.move (.of rfl))) rfl (.gval rfl rfl (fun hg1 => (.gtr (.gd hg1 rfl) (.of rfl))) rfl (.val (.por (.of rfl) (.of rfl) (.of rfl)) rfl (.run 1 rfl trivial (.nil (.ret (ret1 Tryz.results134 rfl ?_))))))))))))))
 exact ⟨_, rfl, rfl, hS⟩
theorem rightP_any (p : Nat → Int) (B w : World) (I : Im) (As : List Assn) (hS : Sat B w I As) :
  Calls Tryz.prog 91 [.agg ((psL p).map I64).toArray].toArray w (Ret fun v w' => v = .bool (rightP p) ∧ Sat B w' I As) := by
 refine calls Tryz.func91 rfl Tryz.ntmps91 rfl (.seq (.region (.boxA (cs := (psL p).map I64) hS (.of rfl) rfl ?_)))
 clear hS; intro b1 w hS
 refine .run 1 rfl trivial (.nil (.seq (.region (.run 1 rfl trivial (.nil (.seq (.region ?_)))))))
 first | refine WL.val (.fieldAddr 0 (.of rfl) Tryz.underlying31 rfl rfl Tryz.sizeOf29 rfl) rfl ?_ | refine WL.val (.fieldAddrI 0 (.of rfl) Tryz.underlying31 rfl rfl Tryz.sizeOf29 rfl) rfl ?_
 refine .val (Ex.slcArr (.of rfl) Tryz.underlying29 Tryz.sizeOf3) rfl (.run 1 rfl trivial (.call Tryz.func135 rfl (evs_cons (.of rfl) (evs_cons (.of rfl) evs_nil)) rfl (ContainsFuncI_any (some (ad b1 0)) 7 ((psL p).take 7) (show (7 : Nat) ≤ 9223372036854775807 by decide) badN 134 _ Tryz.func134 rfl [] B _ I _ (fun w h => rows_blk h (k := 0) rfl (fun i n hn => by match i, hn with | 0, hn => exact congrArg (Option.map I64) hn | 1, hn => exact congrArg (Option.map I64) hn | 2, hn => exact congrArg (Option.map I64) hn | 3, hn => exact congrArg (Option.map I64) hn | 4, hn => exact congrArg (Option.map I64) hn | 5, hn => exact congrArg (Option.map I64) hn | 6, hn => exact congrArg (Option.map I64) hn | i + 7, hn => cases hn)) (fun n hn w h => badN_any n B w I _ h) hS) ?_))
 clear hS
 rintro _ w ⟨rfl, hS⟩
 refine .run 2 rfl trivial ?_
 refine WL.gval rfl rfl (fun hg1 => (by first | exact .fieldAddr 7 (.of rfl) Tryz.underlying31 rfl rfl Tryz.sizeOf29 rfl | exact .fieldAddrI 7 (.of rfl) Tryz.underlying31 rfl rfl Tryz.sizeOf29 rfl)) rfl ?_
 refine .gval rfl rfl (fun hg1 => (Ex.slcArr (.gd hg1 rfl) Tryz.underlying29 Tryz.sizeOf3)) rfl (.gval rfl rfl (fun hg1 => (.move (.of rfl))) rfl (.gcall (T := fun w => Sat B w I (blk b1 ((psL p).map I64) 31 :: As)) rfl rfl rfl Tryz.func135 rfl (fun hg1 => (evs_cons (.gd hg1 rfl) (evs_cons (.gd hg1 rfl) evs_nil))) rfl (fun hg1 => ContainsFuncI_any (some (ad b1 7)) 7 (((psL p).drop 7).take 7) (show (7 : Nat) ≤ 9223372036854775807 by decide) badN 134 _ Tryz.func134 rfl [] B _ I _ (fun w h => rows_blk h (k := 0) rfl (fun i n hn => by match i, hn with | 0, hn => exact congrArg (Option.map I64) hn | 1, hn => exact congrArg (Option.map I64) hn | 2, hn => exact congrArg (Option.map I64) hn | 3, hn => exact congrArg (Option.map I64) hn | 4, hn => exact congrArg (Option.map I64) hn | 5, hn => exact congrArg (Option.map I64) hn | 6, hn => exact congrArg (Option.map I64) hn | i + 7, hn => cases hn)) (fun n hn w h => badN_any n B w I _ h) hS) hS ?_))
 clear hS; rintro w hS
 refine .gval rfl rfl (fun hg1 => (.not (.gd hg1 rfl))) rfl (.val (.pand (.of rfl) (.of rfl) (.of rfl)) rfl (.run 1 rfl trivial ?_))
 refine WL.gval rfl rfl (fun hg1 => (by first | exact .fieldAddr 14 (.of rfl) Tryz.underlying31 rfl rfl Tryz.sizeOf29 rfl | exact .fieldAddrI 14 (.of rfl) Tryz.underlying31 rfl rfl Tryz.sizeOf29 rfl)) rfl ?_
 refine .gval rfl rfl (fun hg1 => (Ex.slcArr (.gd hg1 rfl) Tryz.underlying29 Tryz.sizeOf3)) rfl (.gval rfl rfl (fun hg1 => (.move (.of rfl))) rfl (.gcall (T := fun w => Sat B w I (blk b1 ((psL p).map I64) 31 :: As)) rfl rfl rfl Tryz.func135 rfl (fun hg1 => (evs_cons (.gd hg1 rfl) (evs_cons (.gd hg1 rfl) evs_nil))) rfl (fun hg1 => ContainsFuncI_any (some (ad b1 14)) 7 ((psL p).drop 14) (show (7 : Nat) ≤ 9223372036854775807 by decide) badN 134 _ Tryz.func134 rfl [] B _ I _ (fun w h => rows_blk h (k := 0) rfl (fun i n hn => by match i, hn with | 0, hn => exact congrArg (Option.map I64) hn | 1, hn => exact congrArg (Option.map I64) hn | 2, hn => exact congrArg (Option.map I64) hn | 3, hn => exact congrArg (Option.map I64) hn | 4, hn => exact congrArg (Option.map I64) hn | 5, hn => exact congrArg (Option.map I64) hn | 6, hn => exact congrArg (Option.map I64) hn | i + 7, hn => cases hn)) (fun n hn w h => badN_any n B w I _ h) hS) hS ?_))
 clear hS; rintro w hS
 refine .gval rfl rfl (fun hg1 => (.not (.gd hg1 rfl))) rfl (.val (.pand (.of rfl) (.of rfl) (.of rfl)) rfl (.run 1 rfl trivial (.nil (.ret (ret1 Tryz.results91 rfl ?_)))))
 exact ⟨_, rfl, rfl, hS.drop (k := 0) rfl⟩
def tick (ω : Wd) (n : Int) : Wd := { ω with now := min (ω.now + max 0 (min n 1099511627776)) 1099511627776 }
theorem tick_ok {ω : Wd} (h : WdOk ω) (n : Int) : WdOk (tick ω n) := ⟨h.len, h.wf, h.D, by have := h.now; unfold tick; (try dsimp only); omega, h.room⟩
theorem Tick_any (p : Wp) (ω : Wd) (n : Int) (hω : WdOk ω) (B w : World) (I : Im) (As : List Assn) (hS : Sat B w I (wdA p ω :: As)) :
  Calls Tryz.prog 20 [ptr p.wb 0, I64 n].toArray w (Ret fun v w' => v = .tuple #[] ∧ Sat B w' I (wdA p (tick ω n) :: As)) := by
 refine calls Tryz.func20 rfl Tryz.ntmps20 rfl ?_
 obtain ⟨⟨a, c, ma, mc⟩, hS⟩ := Sat.unbox hS
 replace hS : Sat B _ _ (blk p.wb (wdC p ω) 52 :: blk p.tb [I64 ω.room, .slice a ω.l.length c] 127 :: Vec 45 10 (.slice a ω.l.length c) ω.l.length (rowsR ω.l) :: blk p.mb [.slice ma ω.D.length mc] 168 :: VecO 118 (.slice ma ω.D.length mc) (ω.D.map fun d => U64 (d : Nat)) :: As) := hS
 have hnow := hω.now
 refine .region (.run 3 rfl trivial ?_)
 first | refine WL.val (.fieldAddr 25 (.of rfl) Tryz.underlying52 rfl rfl Tryz.sizeOf3 rfl) rfl ?_ | refine WL.val (.fieldAddrI 25 (.of rfl) Tryz.underlying52 rfl rfl Tryz.sizeOf3 rfl) rfl ?_
 first | refine WL.val (.ld (.of rfl) hS (k := 0) rfl Tryz.isAgg3 rfl) rfl ?_ | refine WL.val (.ld (.of rfl) hS (k := 1) rfl Tryz.isAgg3 rfl) rfl ?_ | refine WL.val (.ld (.of rfl) hS (k := 2) rfl Tryz.isAgg3 rfl) rfl ?_ | refine WL.val (.ld (.of rfl) hS (k := 3) rfl Tryz.isAgg3 rfl) rfl ?_ | refine WL.val (.ld (.of rfl) hS (k := 4) rfl Tryz.isAgg3 rfl) rfl ?_
 refine .run 1 rfl trivial (.val (.min2 (.of rfl) (.of rfl)) rfl (.val (.max2 (.of rfl) (.of rfl)) rfl (.run 1 rfl ⟨⟨by omega, by omega⟩, trivial⟩ (.val (.min2 (.of rfl) (.of rfl)) rfl (.run 1 rfl trivial ?_)))))
 first | refine WL.val (.fieldAddr 25 (.of rfl) Tryz.underlying52 rfl rfl Tryz.sizeOf3 rfl) rfl ?_ | refine WL.val (.fieldAddrI 25 (.of rfl) Tryz.underlying52 rfl rfl Tryz.sizeOf3 rfl) rfl ?_
 refine .st1 hS (k := 0) rfl (.of rfl) (.of rfl) rfl Tryz.sizeOf3 (show 25 < 26 by decide) ?_
 clear hS; intro w hS; try dsimp only [List.set] at hS
 refine .nil (end0 Tryz.results20 ?_)
 exact ⟨_, rfl, rfl, Sat.box (T := wdT p _) (a, c, ma, mc) hS⟩
theorem eAliveQ_any (tb : Nat) (room : Int) (a : Option Addr) (c : Nat) (l : List Rec) (hl : l.length ≤ 100000) (hwf : Wf l) (ps : List Int) (hps : ps.length = 21) (name : List UInt8) (now : Int) (hn : 0 ≤ now ∧ now ≤ 1099511627776) (B w : World) (I : Im) (As : List Assn) (hS : Sat B w I (blk tb [I64 room, .slice a l.length c] 127 :: Vec 45 10 (.slice a l.length c) l.length (rowsR l) :: As)) :
  Calls Tryz.prog 65 [ptr tb 0, .agg (ps.map I64).toArray, S name, I64 now].toArray w (Ret fun v w' => v = .bool (aliveT ps l name now) ∧ Sat B w' I (blk tb [I64 room, .slice a l.length c] 127 :: Vec 45 10 (.slice a l.length c) l.length (rowsR l) :: As)) :=
 (eAlive_any tb room a c l hl hwf ps hps name now hn B w I As hS).mono fun e w' ⟨v, he, J, hJ, hv, hS⟩ => ⟨v, he, hv, hS.weaken hJ⟩
theorem wd_pol {p : Wp} {ω : Wd} {j : Nat} {v : Value} (h : ((psL p.ps).map I64)[j]? = some v) : (wdC p ω)[0 + 4 + j]? = some v := by
 have h1 := (List.getElem?_eq_some_iff.1 h).1
 have e : wdC p ω = [ptr p.tb 0, ptr p.mb 0, .pointer (some p.pr), ptr p.ub 0] ++ ((psL p.ps).map I64 ++ [I64 ω.now]) := rfl
 rw [e, List.getElem?_append_right (by simp), List.length_cons, List.length_cons, List.length_cons, List.length_cons, List.length_nil, show 0 + 4 + j - (0 + 1 + 1 + 1 + 1) = j by omega, List.getElem?_append_left h1]
 exact h
def aliveW (ps : Nat → Int) (ω : Wd) (name : List UInt8) (kind : Int) : Rec × Bool := if ((((getD ω.l name).kind) != kind) || !aliveT (psL ps) ω.l name ω.now) = true then (r0, false) else (getD ω.l name, true)
theorem Alive_any (name : List UInt8) (kind : Int) (p : Wp) (ω : Wd) (hω : WdOk ω) (B w : World) (I : Im) (As : List Assn) (hS : Sat B w I (wdA p ω :: As)) :
  Calls Tryz.prog 21 [ptr p.wb 0, S name, I64 kind].toArray w (Ret fun v w' => v = .tuple #[.agg (recCells (aliveW p.ps ω name kind).1).toArray, .bool (aliveW p.ps ω name kind).2] ∧ Sat B w' I (wdA p ω :: As)) := by
 refine calls Tryz.func21 rfl Tryz.ntmps21 rfl (.seq ?_)
 obtain ⟨⟨a, c, ma, mc⟩, hS⟩ := Sat.unbox hS
 replace hS : Sat B _ _ (blk p.wb (wdC p ω) 52 :: blk p.tb [I64 ω.room, .slice a ω.l.length c] 127 :: Vec 45 10 (.slice a ω.l.length c) ω.l.length (rowsR ω.l) :: blk p.mb [.slice ma ω.D.length mc] 168 :: VecO 118 (.slice ma ω.D.length mc) (ω.D.map fun d => U64 (d : Nat)) :: As) := hS
 have hlen := hω.len
 refine .region (.allocA (cs := [_, _, _, _, _, _, _, _, _, _]) hS Tryz.zeroValue45 rfl ?_)
 clear hS; intro b6 w hS
 refine .run 1 rfl trivial (.nil (.seq (.region (.run 2 rfl trivial ?_))))
 first | refine WL.val (.fieldAddr 0 (.of rfl) Tryz.underlying52 rfl rfl Tryz.sizeOf47 rfl) rfl ?_ | refine WL.val (.fieldAddrI 0 (.of rfl) Tryz.underlying52 rfl rfl Tryz.sizeOf47 rfl) rfl ?_
 first | refine WL.val (.ld (.of rfl) hS (k := 0) rfl Tryz.isAgg47 rfl) rfl ?_ | refine WL.val (.ld (.of rfl) hS (k := 1) rfl Tryz.isAgg47 rfl) rfl ?_ | refine WL.val (.ld (.of rfl) hS (k := 2) rfl Tryz.isAgg47 rfl) rfl ?_ | refine WL.val (.ld (.of rfl) hS (k := 3) rfl Tryz.isAgg47 rfl) rfl ?_ | refine WL.val (.ld (.of rfl) hS (k := 4) rfl Tryz.isAgg47 rfl) rfl ?_ | refine WL.val (.ld (.of rfl) hS (k := 5) rfl Tryz.isAgg47 rfl) rfl ?_
 refine .run 1 rfl trivial (.call Tryz.func17 rfl (evs_cons (.of rfl) (evs_cons (.of rfl) evs_nil)) rfl (Get_any p.tb ω.room a c ω.l (by omega) name B _ I _ ((hS.pick 3 rfl).pick 3 rfl)) ?_)
 clear hS
 rintro _ w ⟨rfl, hS⟩
 try dsimp only [List.eraseIdx] at hS
 refine .run 3 rfl trivial (.allocA (cs := [_, _, _, _, _, _, _, _, _, _]) hS Tryz.zeroValue45 rfl ?_)
 clear hS; intro b8 w hS
 first | refine WL.stA hS (k := 0) rfl (.of rfl) (.of rfl) rfl Tryz.sizeOf45 rfl (by simp) ?_ | refine WL.stA hS (k := 1) rfl (.of rfl) (.of rfl) rfl Tryz.sizeOf45 rfl (by simp) ?_ | refine WL.stA hS (k := 2) rfl (.of rfl) (.of rfl) rfl Tryz.sizeOf45 rfl (by simp) ?_ | refine WL.stA hS (k := 3) rfl (.of rfl) (.of rfl) rfl Tryz.sizeOf45 rfl (by simp) ?_ | refine WL.stA hS (k := 4) rfl (.of rfl) (.of rfl) rfl Tryz.sizeOf45 rfl (by simp) ?_ | refine WL.stA hS (k := 5) rfl (.of rfl) (.of rfl) rfl Tryz.sizeOf45 rfl (by simp) ?_ | refine WL.stA hS (k := 6) rfl (.of rfl) (.of rfl) rfl Tryz.sizeOf45 rfl (by simp) ?_
 clear hS; intro w hS; try dsimp only [List.set] at hS
 try simp only [List.take_zero, List.nil_append, List.append_nil, List.drop_succ_cons, List.drop_zero, List.drop_nil, Nat.zero_add] at hS
 refine .run 1 rfl trivial (.nil (.seq (.seq ?_)))
 replace hS := (hS.pick 2 rfl).pick 2 rfl
 try dsimp only [List.eraseIdx] at hS
 refine .quiet (by kernel_rfl) (by kernel_rfl) hS ?_
 refine WQ.val (fun w hS => (by first | exact .fieldAddr 0 (.of rfl) Tryz.underlying45 rfl rfl Tryz.sizeOf3 rfl | exact .fieldAddrI 0 (.of rfl) Tryz.underlying45 rfl rfl Tryz.sizeOf3 rfl)) rfl ?_
 refine WQ.val (fun w hS => (by first | exact (.ld (.of rfl) hS (k := 0) rfl Tryz.isAgg3 rfl) | exact (.ld (.of rfl) hS (k := 1) rfl Tryz.isAgg3 rfl) | exact (.ld (.of rfl) hS (k := 2) rfl Tryz.isAgg3 rfl) | exact (.ld (.of rfl) hS (k := 3) rfl Tryz.isAgg3 rfl) | exact (.ld (.of rfl) hS (k := 4) rfl Tryz.isAgg3 rfl) | exact (.ld (.of rfl) hS (k := 5) rfl Tryz.isAgg3 rfl) | exact (.ld (.of rfl) hS (k := 6) rfl Tryz.isAgg3 rfl))) rfl ?_
 refine .val (fun w hS => (.move (.of rfl))) rfl (.val (fun w hS => (.neq (.of rfl) (.of rfl))) rfl (.val (fun w hS => (.move (.of rfl))) rfl (.gval rfl rfl rfl (fun hg1 w hS => (.move (.of rfl))) rfl (.gval rfl rfl rfl (fun hg1 w hS => (.nilCheck (.gd hg1 rfl))) rfl ?_))))
 refine WQ.gval rfl rfl rfl (fun hg1 w hS => (by first | exact .fieldAddr 0 (.gd hg1 rfl) Tryz.underlying52 rfl rfl Tryz.sizeOf47 rfl | exact .fieldAddrI 0 (.gd hg1 rfl) Tryz.underlying52 rfl rfl Tryz.sizeOf47 rfl)) rfl ?_
 refine WQ.gval rfl rfl rfl (fun hg1 w hS => (by first | exact (.ld (.gd hg1 rfl) hS (k := 0) rfl Tryz.isAgg47 rfl) | exact (.ld (.gd hg1 rfl) hS (k := 1) rfl Tryz.isAgg47 rfl) | exact (.ld (.gd hg1 rfl) hS (k := 2) rfl Tryz.isAgg47 rfl) | exact (.ld (.gd hg1 rfl) hS (k := 3) rfl Tryz.isAgg47 rfl) | exact (.ld (.gd hg1 rfl) hS (k := 4) rfl Tryz.isAgg47 rfl) | exact (.ld (.gd hg1 rfl) hS (k := 5) rfl Tryz.isAgg47 rfl) | exact (.ld (.gd hg1 rfl) hS (k := 6) rfl Tryz.isAgg47 rfl))) rfl ?_
 refine .gval rfl rfl rfl (fun hg1 w hS => (.move (.of rfl))) rfl (.gval rfl rfl rfl (fun hg1 w hS => (.nilCheck (.gd hg1 rfl))) rfl ?_)
 refine WQ.gval rfl rfl rfl (fun hg1 w hS => (by first | exact .fieldAddr 4 (.gd hg1 rfl) Tryz.underlying52 rfl rfl Tryz.sizeOf31 rfl | exact .fieldAddrI 4 (.gd hg1 rfl) Tryz.underlying52 rfl rfl Tryz.sizeOf31 rfl)) rfl ?_
 refine .gval rfl rfl rfl (fun hg1 w hS => (.lds (vs := (psL p.ps).map I64) (.gd hg1 rfl) hS (k := 4) rfl Tryz.isAgg31 Tryz.sizeOf31 rfl (fun j v hj => wd_pol hj))) rfl (.gval rfl rfl rfl (fun hg1 w hS => (.move (.of rfl))) rfl (.gval rfl rfl rfl (fun hg1 w hS => (.move (.of rfl))) rfl (.gval rfl rfl rfl (fun hg1 w hS => (.nilCheck (.gd hg1 rfl))) rfl ?_)))
 refine WQ.gval rfl rfl rfl (fun hg1 w hS => (by first | exact .fieldAddr 25 (.gd hg1 rfl) Tryz.underlying52 rfl rfl Tryz.sizeOf3 rfl | exact .fieldAddrI 25 (.gd hg1 rfl) Tryz.underlying52 rfl rfl Tryz.sizeOf3 rfl)) rfl ?_
 refine WQ.gval rfl rfl rfl (fun hg1 w hS => (by first | exact (.ld (.gd hg1 rfl) hS (k := 0) rfl Tryz.isAgg3 rfl) | exact (.ld (.gd hg1 rfl) hS (k := 1) rfl Tryz.isAgg3 rfl) | exact (.ld (.gd hg1 rfl) hS (k := 2) rfl Tryz.isAgg3 rfl) | exact (.ld (.gd hg1 rfl) hS (k := 3) rfl Tryz.isAgg3 rfl) | exact (.ld (.gd hg1 rfl) hS (k := 4) rfl Tryz.isAgg3 rfl) | exact (.ld (.gd hg1 rfl) hS (k := 5) rfl Tryz.isAgg3 rfl) | exact (.ld (.gd hg1 rfl) hS (k := 6) rfl Tryz.isAgg3 rfl))) rfl ?_
 refine .gcall rfl rfl rfl Tryz.func65 rfl (fun hg1 => (evs_cons (.gd hg1 rfl) (evs_cons (.gd hg1 rfl) (evs_cons (.gd hg1 rfl) (evs_cons (.gd hg1 rfl) evs_nil))))) rfl (fun hg1 w hS => eAliveQ_any p.tb ω.room a c ω.l (by omega) hω.wf (psL p.ps) rfl name ω.now hω.now B _ I _ hS) (.gval rfl rfl rfl (fun hg1 w hS => (.not (.gd hg1 rfl))) rfl (.val (fun w hS => (.por (.of rfl) (.of rfl) (.of rfl))) rfl (.nil ?_)))
 clear hS; intro w hS
 refine WC.cond rfl (fun hb39 => ?_) (fun hb39 => ?_)
 ·
  have hc39 := hb39; try simp only [Gk.cs0] at hc39
  refine .seq (.region (.val (.build (cs := [_, _, _, _, _, _, _, _, _, _]) parts_nil bld45_178 rfl) rfl ?_))
  first | refine WL.stA hS (k := 0) rfl (.of rfl) (.of rfl) rfl Tryz.sizeOf45 rfl (by simp) ?_ | refine WL.stA hS (k := 1) rfl (.of rfl) (.of rfl) rfl Tryz.sizeOf45 rfl (by simp) ?_ | refine WL.stA hS (k := 2) rfl (.of rfl) (.of rfl) rfl Tryz.sizeOf45 rfl (by simp) ?_ | refine WL.stA hS (k := 3) rfl (.of rfl) (.of rfl) rfl Tryz.sizeOf45 rfl (by simp) ?_ | refine WL.stA hS (k := 4) rfl (.of rfl) (.of rfl) rfl Tryz.sizeOf45 rfl (by simp) ?_ | refine WL.stA hS (k := 5) rfl (.of rfl) (.of rfl) rfl Tryz.sizeOf45 rfl (by simp) ?_ | refine WL.stA hS (k := 6) rfl (.of rfl) (.of rfl) rfl Tryz.sizeOf45 rfl (by simp) ?_
  clear hS; intro w hS; try dsimp only [List.set] at hS
  try simp only [List.take_zero, List.nil_append, List.append_nil, List.drop_succ_cons, List.drop_zero, List.drop_nil, Nat.zero_add] at hS
  refine .run 1 rfl trivial (.nil (.ret ?_))
  first | refine ret2c (b := _) (cs := [_, _, _, _, _, _, _, _, _, _]) Tryz.results21 hS (k := 0) rfl Tryz.isAgg45 Tryz.sizeOf45 rfl rfl rfl ?_ | refine ret2c (b := _) (cs := [_, _, _, _, _, _, _, _, _, _]) Tryz.results21 hS (k := 1) rfl Tryz.isAgg45 Tryz.sizeOf45 rfl rfl rfl ?_ | refine ret2c (b := _) (cs := [_, _, _, _, _, _, _, _, _, _]) Tryz.results21 hS (k := 2) rfl Tryz.isAgg45 Tryz.sizeOf45 rfl rfl rfl ?_ | refine ret2c (b := _) (cs := [_, _, _, _, _, _, _, _, _, _]) Tryz.results21 hS (k := 3) rfl Tryz.isAgg45 Tryz.sizeOf45 rfl rfl rfl ?_ | refine ret2c (b := _) (cs := [_, _, _, _, _, _, _, _, _, _]) Tryz.results21 hS (k := 4) rfl Tryz.isAgg45 Tryz.sizeOf45 rfl rfl rfl ?_ | refine ret2c (b := _) (cs := [_, _, _, _, _, _, _, _, _, _]) Tryz.results21 hS (k := 5) rfl Tryz.isAgg45 Tryz.sizeOf45 rfl rfl rfl ?_ | refine ret2c (b := _) (cs := [_, _, _, _, _, _, _, _, _, _]) Tryz.results21 hS (k := 6) rfl Tryz.isAgg45 Tryz.sizeOf45 rfl rfl rfl ?_
  refine ⟨_, rfl, ?_, Sat.box (T := wdT p _) (a, c, ma, mc) ?_⟩
  ·rw [aliveW, if_pos hb39]; rfl
  replace hS := ((hS.drop (k := 2) rfl).drop (k := 2) rfl).pick 2 rfl
  try dsimp only [List.eraseIdx] at hS
  exact hS
 have hc39 := hb39; try simp only [Gk.cs0] at hc39
 refine .skip (.seq (.region ?_))
 first | refine WL.val (.ldsW (cs := [_, _, _, _, _, _, _, _, _, _]) (.of rfl) hS (k := 0) rfl Tryz.isAgg45 Tryz.sizeOf45 rfl) rfl ?_ | refine WL.val (.lds (vs := [_, _, _, _, _, _, _, _, _, _]) (.of rfl) hS (k := 0) rfl Tryz.isAgg45 Tryz.sizeOf45 rfl (fun _ _ h => h)) rfl ?_ | refine WL.val (.ldsW (cs := [_, _, _, _, _, _, _, _, _, _]) (.of rfl) hS (k := 1) rfl Tryz.isAgg45 Tryz.sizeOf45 rfl) rfl ?_ | refine WL.val (.lds (vs := [_, _, _, _, _, _, _, _, _, _]) (.of rfl) hS (k := 1) rfl Tryz.isAgg45 Tryz.sizeOf45 rfl (fun _ _ h => h)) rfl ?_ | refine WL.val (.ldsW (cs := [_, _, _, _, _, _, _, _, _, _]) (.of rfl) hS (k := 2) rfl Tryz.isAgg45 Tryz.sizeOf45 rfl) rfl ?_ | refine WL.val (.lds (vs := [_, _, _, _, _, _, _, _, _, _]) (.of rfl) hS (k := 2) rfl Tryz.isAgg45 Tryz.sizeOf45 rfl (fun _ _ h => h)) rfl ?_ | refine WL.val (.ldsW (cs := [_, _, _, _, _, _, _, _, _, _]) (.of rfl) hS (k := 3) rfl Tryz.isAgg45 Tryz.sizeOf45 rfl) rfl ?_ | refine WL.val (.lds (vs := [_, _, _, _, _, _, _, _, _, _]) (.of rfl) hS (k := 3) rfl Tryz.isAgg45 Tryz.sizeOf45 rfl (fun _ _ h => h)) rfl ?_ | refine WL.val (.ldsW (cs := [_, _, _, _, _, _, _, _, _, _]) (.of rfl) hS (k := 4) rfl Tryz.isAgg45 Tryz.sizeOf45 rfl) rfl ?_ | refine WL.val (.lds (vs := [_, _, _, _, _, _, _, _, _, _]) (.of rfl) hS (k := 4) rfl Tryz.isAgg45 Tryz.sizeOf45 rfl (fun _ _ h => h)) rfl ?_ | refine WL.val (.ldsW (cs := [_, _, _, _, _, _, _, _, _, _]) (.of rfl) hS (k := 5) rfl Tryz.isAgg45 Tryz.sizeOf45 rfl) rfl ?_ | refine WL.val (.lds (vs := [_, _, _, _, _, _, _, _, _, _]) (.of rfl) hS (k := 5) rfl Tryz.isAgg45 Tryz.sizeOf45 rfl (fun _ _ h => h)) rfl ?_ | refine WL.val (.ldsW (cs := [_, _, _, _, _, _, _, _, _, _]) (.of rfl) hS (k := 6) rfl Tryz.isAgg45 Tryz.sizeOf45 rfl) rfl ?_ | refine WL.val (.lds (vs := [_, _, _, _, _, _, _, _, _, _]) (.of rfl) hS (k := 6) rfl Tryz.isAgg45 Tryz.sizeOf45 rfl (fun _ _ h => h)) rfl ?_
 first | refine WL.stA hS (k := 0) rfl (.of rfl) (.of rfl) rfl Tryz.sizeOf45 rfl (by simp) ?_ | refine WL.stA hS (k := 1) rfl (.of rfl) (.of rfl) rfl Tryz.sizeOf45 rfl (by simp) ?_ | refine WL.stA hS (k := 2) rfl (.of rfl) (.of rfl) rfl Tryz.sizeOf45 rfl (by simp) ?_ | refine WL.stA hS (k := 3) rfl (.of rfl) (.of rfl) rfl Tryz.sizeOf45 rfl (by simp) ?_ | refine WL.stA hS (k := 4) rfl (.of rfl) (.of rfl) rfl Tryz.sizeOf45 rfl (by simp) ?_ | refine WL.stA hS (k := 5) rfl (.of rfl) (.of rfl) rfl Tryz.sizeOf45 rfl (by simp) ?_ | refine WL.stA hS (k := 6) rfl (.of rfl) (.of rfl) rfl Tryz.sizeOf45 rfl (by simp) ?_
 clear hS; intro w hS; try dsimp only [List.set] at hS
 try simp only [List.take_zero, List.nil_append, List.append_nil, List.drop_succ_cons, List.drop_zero, List.drop_nil, Nat.zero_add] at hS
 refine .run 1 rfl trivial (.nil (.ret ?_))
 first | refine ret2c (b := _) (cs := [_, _, _, _, _, _, _, _, _, _]) Tryz.results21 hS (k := 0) rfl Tryz.isAgg45 Tryz.sizeOf45 rfl rfl rfl ?_ | refine ret2c (b := _) (cs := [_, _, _, _, _, _, _, _, _, _]) Tryz.results21 hS (k := 1) rfl Tryz.isAgg45 Tryz.sizeOf45 rfl rfl rfl ?_ | refine ret2c (b := _) (cs := [_, _, _, _, _, _, _, _, _, _]) Tryz.results21 hS (k := 2) rfl Tryz.isAgg45 Tryz.sizeOf45 rfl rfl rfl ?_ | refine ret2c (b := _) (cs := [_, _, _, _, _, _, _, _, _, _]) Tryz.results21 hS (k := 3) rfl Tryz.isAgg45 Tryz.sizeOf45 rfl rfl rfl ?_ | refine ret2c (b := _) (cs := [_, _, _, _, _, _, _, _, _, _]) Tryz.results21 hS (k := 4) rfl Tryz.isAgg45 Tryz.sizeOf45 rfl rfl rfl ?_ | refine ret2c (b := _) (cs := [_, _, _, _, _, _, _, _, _, _]) Tryz.results21 hS (k := 5) rfl Tryz.isAgg45 Tryz.sizeOf45 rfl rfl rfl ?_ | refine ret2c (b := _) (cs := [_, _, _, _, _, _, _, _, _, _]) Tryz.results21 hS (k := 6) rfl Tryz.isAgg45 Tryz.sizeOf45 rfl rfl rfl ?_
 refine ⟨_, rfl, ?_, Sat.box (T := wdT p _) (a, c, ma, mc) ?_⟩
 ·rw [aliveW, if_neg (by rw [hb39]; decide)]; rfl
 replace hS := ((hS.drop (k := 2) rfl).drop (k := 2) rfl).pick 2 rfl
 try dsimp only [List.eraseIdx] at hS
 exact hS
theorem mkC_any (p : Wp) (ω : Wd) (a : Option Addr) (c : Nat) (hlen : ω.l.length ≤ 64) (xb : Nat) (name : List UInt8) (B w : World) (I : Im) (As : List Assn) (hS : Sat B w I (blk xb [ptr p.wb 0] 39 :: blk p.wb (wdC p ω) 52 :: blk p.tb [I64 ω.room, .slice a ω.l.length c] 127 :: Vec 45 10 (.slice a ω.l.length c) ω.l.length (rowsR ω.l) :: As)) :
  Calls Tryz.prog 99 [S name, ptr xb 0].toArray w (Ret fun v w' => v = .bool (get ω.l name).isSome ∧ Sat B w' I (blk xb [ptr p.wb 0] 39 :: blk p.wb (wdC p ω) 52 :: blk p.tb [I64 ω.room, .slice a ω.l.length c] 127 :: Vec 45 10 (.slice a ω.l.length c) ω.l.length (rowsR ω.l) :: As)) := by
 refine calls Tryz.func99 rfl Tryz.ntmps99 rfl (.seq (.region (.run 1 rfl trivial (.nil (.seq (.region ?_))))))
 first | refine WL.val (.ld (.of rfl) hS (k := 0) rfl Tryz.isAgg39 rfl) rfl ?_ | refine WL.val (.ld (.of rfl) hS (k := 1) rfl Tryz.isAgg39 rfl) rfl ?_ | refine WL.val (.ld (.of rfl) hS (k := 2) rfl Tryz.isAgg39 rfl) rfl ?_ | refine WL.val (.ld (.of rfl) hS (k := 3) rfl Tryz.isAgg39 rfl) rfl ?_
 refine .run 1 rfl trivial ?_
 first | refine WL.val (.fieldAddr 0 (.of rfl) Tryz.underlying52 rfl rfl Tryz.sizeOf47 rfl) rfl ?_ | refine WL.val (.fieldAddrI 0 (.of rfl) Tryz.underlying52 rfl rfl Tryz.sizeOf47 rfl) rfl ?_
 first | refine WL.val (.ld (.of rfl) hS (k := 0) rfl Tryz.isAgg47 rfl) rfl ?_ | refine WL.val (.ld (.of rfl) hS (k := 1) rfl Tryz.isAgg47 rfl) rfl ?_ | refine WL.val (.ld (.of rfl) hS (k := 2) rfl Tryz.isAgg47 rfl) rfl ?_ | refine WL.val (.ld (.of rfl) hS (k := 3) rfl Tryz.isAgg47 rfl) rfl ?_
 refine .run 1 rfl trivial (.call Tryz.func17 rfl (evs_cons (.of rfl) (evs_cons (.of rfl) evs_nil)) rfl (Get_any p.tb ω.room a c ω.l (by omega) name B _ I _ ((hS.pick 3 rfl).pick 3 rfl)) ?_)
 clear hS
 rintro _ w ⟨rfl, hS⟩
 replace hS := ((hS.pick 3 rfl).pick 3 rfl)
 try dsimp only [List.eraseIdx] at hS
 refine .run 3 rfl trivial (.allocA (cs := [_, _, _, _, _, _, _, _, _, _]) hS Tryz.zeroValue45 rfl ?_)
 clear hS; intro b4 w hS
 first | refine WL.stA hS (k := 0) rfl (.of rfl) (.of rfl) rfl Tryz.sizeOf45 rfl (by simp) ?_ | refine WL.stA hS (k := 1) rfl (.of rfl) (.of rfl) rfl Tryz.sizeOf45 rfl (by simp) ?_ | refine WL.stA hS (k := 2) rfl (.of rfl) (.of rfl) rfl Tryz.sizeOf45 rfl (by simp) ?_ | refine WL.stA hS (k := 3) rfl (.of rfl) (.of rfl) rfl Tryz.sizeOf45 rfl (by simp) ?_ | refine WL.stA hS (k := 4) rfl (.of rfl) (.of rfl) rfl Tryz.sizeOf45 rfl (by simp) ?_
 clear hS; intro w hS; try dsimp only [List.set] at hS
 try simp only [List.take_zero, List.nil_append, List.append_nil, List.drop_succ_cons, List.drop_zero, List.drop_nil, Nat.zero_add] at hS
 refine .run 1 rfl trivial (.nil (.seq (.region (.run 2 rfl trivial (.nil (.ret (ret1 Tryz.results99 rfl ?_)))))))
 exact ⟨_, rfl, rfl, hS.drop (k := 0) rfl⟩
def mkN (ω : Wd) (r : Rec) : (List UInt8 × Nat) × List Nat := nextT (fun s => (get ω.l s).isSome) r.kind ω.D
def mkR (ω : Wd) (r : Rec) : Rec := { r with name := (mkN ω r).1.1, made := ω.now, used := ω.now }
def mkW (ω : Wd) (r : Rec) : (List UInt8 × Nat) × Wd :=
 if (mkN ω r).1.2 ≠ 0 then (([], 39), { ω with D := (mkN ω r).2 })
 else (if addE ω.room ω.l (mkR ω r) ≠ 0 then ([], 39) else ((mkN ω r).1.1, 0), { ω with D := (mkN ω r).2, l := add ω.room ω.l (mkR ω r) })
theorem nextT_D {pr : List UInt8 → Bool} {kind : Int} {D : List Nat} : ∀ d ∈ (nextT pr kind D).2, d ∈ D := by
 intro d hd
 unfold nextT at hd
 split at hd
 ·exact hd
 ·split at hd
  ·simp at hd
  ·rename_i x D
   split at hd <;> exact List.mem_cons_of_mem _ hd
theorem nextT_len {pr : List UInt8 → Bool} {kind : Int} {D : List Nat} : (nextT pr kind D).1.1.length ≤ 23 := by
 unfold nextT
 split
 ·simp
 ·split
  ·simp
  ·split
   ·simp
   ·have := preI_le kind
    simp only [List.length_append, List.length_cons, digs_len]; omega
theorem mkW_ok {ω : Wd} (h : WdOk ω) (r : Rec) : WdOk (mkW ω r).2 := by
 unfold mkW
 have hD : ∀ d ∈ (mkN ω r).2, d < 18446744073709551616 := fun d hd => h.D d (nextT_D d hd)
 split
 ·exact ⟨h.len, h.wf, hD, h.now, h.room⟩
 ·refine ⟨?_, h.wf.add, hD, h.now, h.room⟩
  show (add ω.room ω.l (mkR ω r)).length ≤ 64
  unfold add
  split
  ·rename_i e
   have := (add_ok e).2.2.2
   have := h.room
   rw [List.length_append, List.length_cons, List.length_nil]; omega
  ·exact h.len
theorem Make_any (r : Rec) (hrp : r.parent.length ≤ 1000000) (p : Wp) (ω : Wd) (hω : WdOk ω) (B w : World) (I : Im) (hI : WpOk I p) (As : List Assn) (hS : Sat B w I (wdA p ω :: As)) :
  Calls Tryz.prog 49 [ptr p.wb 0, .agg (recCells r).toArray].toArray w (Ret fun v w' => v = .tuple #[S (mkW ω r).1.1, I64 ((mkW ω r).1.2 : Nat)] ∧ Sat B w' I (wdA p (mkW ω r).2 :: As)) := by
 refine calls Tryz.func49 rfl Tryz.ntmps49 rfl (.seq ?_)
 obtain ⟨⟨a, c, ma, mc⟩, hS⟩ := Sat.unbox hS
 replace hS : Sat B _ _ (blk p.wb (wdC p ω) 52 :: blk p.tb [I64 ω.room, .slice a ω.l.length c] 127 :: Vec 45 10 (.slice a ω.l.length c) ω.l.length (rowsR ω.l) :: blk p.mb [.slice ma ω.D.length mc] 168 :: VecO 118 (.slice ma ω.D.length mc) (ω.D.map fun d => U64 (d : Nat)) :: As) := hS
 have hlen := hω.len
 refine .region (.box1 hS (.of rfl) rfl rfl ?_)
 clear hS; intro b2 w hS
 refine .boxA (cs := [_, _, _, _, _, _, _, _, _, _]) hS (.of rfl) rfl ?_
 clear hS; intro b3 w hS
 refine .run 2 rfl trivial (.nil (.seq (.drawn (fun w => ∃ R, Sat B w I (blk b2 [ptr p.wb 0] 39 :: blk b3 [I64 r.kind, S r.name, S r.parent, S r.user, S r.service, S r.url, I64 r.made, I64 r.used, I64 r.uses, .bool r.fresh] 45 :: blk p.wb (wdC p ω) 52 :: R)) (fun j => !([].contains j)) (by kernel_rfl) ?_)))
 replace hS := hS.drew; generalize w.drew = w at hS ⊢
 have hH : ∃ R, Sat B w I (blk b2 [ptr p.wb 0] 39 :: blk b3 [I64 r.kind, S r.name, S r.parent, S r.user, S r.service, S r.url, I64 r.made, I64 r.used, I64 r.uses, .bool r.fresh] 45 :: blk p.wb (wdC p ω) 52 :: R) := ⟨_, (((hS.pick 2 rfl).pick 1 rfl).pick 2 rfl)⟩
 refine WD.take (i := 0) rfl (by kernel_rfl) (by kernel_rfl) (by kernel_rfl) (by kernel_rfl) hH (fun w ⟨R, hS⟩ => (by first | exact (.ld (.of rfl) hS (k := 0) rfl Tryz.isAgg39 rfl) | exact (.ld (.of rfl) hS (k := 1) rfl Tryz.isAgg39 rfl) | exact (.ld (.of rfl) hS (k := 2) rfl Tryz.isAgg39 rfl))) rfl ?_
 refine .takeP (i := 1) rfl (by kernel_rfl) (by kernel_rfl) (by kernel_rfl) (fun w => (.nilCheck (.of rfl))) rfl ?_
 refine WD.takeP (i := 2) rfl (by kernel_rfl) (by kernel_rfl) (by kernel_rfl) (fun w => (by first | exact .fieldAddr 1 (.of rfl) Tryz.underlying52 rfl rfl Tryz.sizeOf48 rfl | exact .fieldAddrI 1 (.of rfl) Tryz.underlying52 rfl rfl Tryz.sizeOf48 rfl)) rfl ?_
 refine WD.take (i := 3) rfl (by kernel_rfl) (by kernel_rfl) (by kernel_rfl) (by kernel_rfl) hH (fun w ⟨R, hS⟩ => (by first | exact (.ld (.of rfl) hS (k := 0) rfl Tryz.isAgg48 rfl) | exact (.ld (.of rfl) hS (k := 1) rfl Tryz.isAgg48 rfl) | exact (.ld (.of rfl) hS (k := 2) rfl Tryz.isAgg48 rfl))) rfl ?_
 refine WD.takeP (i := 4) rfl (by kernel_rfl) (by kernel_rfl) (by kernel_rfl) (fun w => (by first | exact .fieldAddr 0 (.of rfl) Tryz.underlying45 rfl rfl Tryz.sizeOf3 rfl | exact .fieldAddrI 0 (.of rfl) Tryz.underlying45 rfl rfl Tryz.sizeOf3 rfl)) rfl ?_
 refine WD.take (i := 5) rfl (by kernel_rfl) (by kernel_rfl) (by kernel_rfl) (by kernel_rfl) hH (fun w ⟨R, hS⟩ => (by first | exact (.ld (.of rfl) hS (k := 0) rfl Tryz.isAgg3 rfl) | exact (.ld (.of rfl) hS (k := 1) rfl Tryz.isAgg3 rfl) | exact (.ld (.of rfl) hS (k := 2) rfl Tryz.isAgg3 rfl))) rfl ?_
 refine .takeP (i := 6) rfl (by kernel_rfl) (by kernel_rfl) (by kernel_rfl) (fun w => (.makeFunc (evs_cons (.of rfl) evs_nil))) rfl ?_
 refine WD.branch [7] (by kernel_rfl) rfl (WO.cons rfl ?_ (WO.nil))
 refine .call Tryz.func98 rfl (evs_cons (.of rfl) (evs_cons (.of rfl) (evs_cons (.of rfl) evs_nil))) rfl (Next_any p.mb ma mc ω.D hω.D r.kind (fun s => (get ω.l s).isSome) 99 _ Tryz.func99 rfl [ptr b2 0] B _ I hI.pre (blk b2 [ptr p.wb 0] 39 :: blk p.wb (wdC p ω) 52 :: blk p.tb [I64 ω.room, .slice a ω.l.length c] 127 :: Vec 45 10 (.slice a ω.l.length c) ω.l.length (rowsR ω.l) :: blk b3 [I64 r.kind, S r.name, S r.parent, S r.user, S r.service, S r.url, I64 r.made, I64 r.used, I64 r.uses, .bool r.fresh] 45 :: As) (fun M s w h => (mkC_any p ω a c hlen b2 s B w I (blk b3 [I64 r.kind, S r.name, S r.parent, S r.user, S r.service, S r.url, I64 r.made, I64 r.used, I64 r.uses, .bool r.fresh] 45 :: As ++ M) (Sat.swap (M := M) (As := blk b2 [ptr p.wb 0] 39 :: blk p.wb (wdC p ω) 52 :: blk p.tb [I64 ω.room, .slice a ω.l.length c] 127 :: Vec 45 10 (.slice a ω.l.length c) ω.l.length (rowsR ω.l) :: blk b3 [I64 r.kind, S r.name, S r.parent, S r.user, S r.service, S r.url, I64 r.made, I64 r.used, I64 r.uses, .bool r.fresh] 45 :: As) h)).mono fun e w9 ⟨v9, he, hv, hS9⟩ => ⟨v9, he, hv, Sat.swap (M := blk b2 [ptr p.wb 0] 39 :: blk p.wb (wdC p ω) 52 :: blk p.tb [I64 ω.room, .slice a ω.l.length c] 127 :: Vec 45 10 (.slice a ω.l.length c) ω.l.length (rowsR ω.l) :: blk b3 [I64 r.kind, S r.name, S r.parent, S r.user, S r.service, S r.url, I64 r.made, I64 r.used, I64 r.uses, .bool r.fresh] 45 :: As) (As := M) hS9⟩) ((((((hS.pick 4 rfl).pick 4 rfl).pick 4 rfl).pick 4 rfl).pick 6 rfl).pick 6 rfl)) ?_
 clear hS
 rintro _ w ⟨rfl, ma2, mc2, hS⟩
 try dsimp only [List.eraseIdx] at hS
 replace hS : Sat B w I (blk p.mb [.slice ma2 (mkN ω r).2.length mc2] 168 :: VecO 118 (.slice ma2 (mkN ω r).2.length mc2) ((mkN ω r).2.map fun d => U64 (d : Nat)) :: blk b2 [ptr p.wb 0] 39 :: blk p.wb (wdC p ω) 52 :: blk p.tb [I64 ω.room, .slice a ω.l.length c] 127 :: Vec 45 10 (.slice a ω.l.length c) ω.l.length (rowsR ω.l) :: blk b3 [I64 r.kind, S r.name, S r.parent, S r.user, S r.service, S r.url, I64 r.made, I64 r.used, I64 r.uses, .bool r.fresh] 45 :: As) := hS
 refine .nil ?_
 clear hH
 have hH : ∃ R, Sat B w I (blk b2 [ptr p.wb 0] 39 :: blk b3 [I64 r.kind, S r.name, S r.parent, S r.user, S r.service, S r.url, I64 r.made, I64 r.used, I64 r.uses, .bool r.fresh] 45 :: blk p.wb (wdC p ω) 52 :: R) := ⟨_, (((hS.pick 3 rfl).pick 6 rfl).pick 4 rfl)⟩
 refine And.intro (by intro _ _; exact hH) ?_
 refine .takeP (i := 8) rfl (by kernel_rfl) (by kernel_rfl) (by kernel_rfl) (fun w => (.move (.of rfl))) rfl (.takeP (i := 9) rfl (by kernel_rfl) (by kernel_rfl) (by kernel_rfl) (fun w => (.extract (.of rfl) rfl)) rfl (.takeP (i := 10) rfl (by kernel_rfl) (by kernel_rfl) (by kernel_rfl) (fun w => (.extract (.of rfl) rfl)) rfl (.takeP (i := 11) rfl (by kernel_rfl) (by kernel_rfl) (by kernel_rfl) (fun w => (.assign (.of rfl))) rfl (.takeP (i := 12) rfl (by kernel_rfl) (by kernel_rfl) (by kernel_rfl) (fun w => (.assign (.of rfl))) rfl (.done (by kernel_rfl) (.seq (.seq (.region (.run 2 rfl trivial (.nil ?_))))))))))
 refine WC.cond rfl (fun hb20 => ?_) (fun hb20 => ?_)
 ·
  have hc20 := hb20; try simp only [Gk.cs0] at hc20
  refine .seq (.region (.run 2 rfl trivial (.nil (.ret (ret2 Tryz.results49 rfl rfl ?_)))))
  have hE : mkW ω r = (([], 39), { ω with D := (mkN ω r).2 }) := if_pos (by simpa [mkN] using hb20)
  rw [hE]
  replace hS := (hS.drop (k := 2) rfl).drop (k := 5) rfl
  try dsimp only [List.eraseIdx] at hS
  exact ⟨_, rfl, rfl, Sat.box (T := wdT p _) (a, c, ma2, mc2) (((hS.pick 4 rfl).pick 4 rfl).pick 4 rfl)⟩
 have hc20 := hb20; try simp only [Gk.cs0] at hc20
 refine .skip ?_
 refine WC.cutS (σ := Unit) (fun _ => [(2, ptr b2 0), (3, ptr b3 0), (6, S (mkN ω r).1.1)]) (fun _ w => Sat B w I (blk p.mb [.slice ma2 (mkN ω r).2.length mc2] 168 :: VecO 118 (.slice ma2 (mkN ω r).2.length mc2) ((mkN ω r).2.map fun d => U64 (d : Nat)) :: blk b2 [ptr p.wb 0] 39 :: blk p.wb (wdC p ω) 52 :: blk p.tb [I64 ω.room, .slice a ω.l.length c] 127 :: Vec 45 10 (.slice a ω.l.length c) ω.l.length (rowsR ω.l) :: blk b3 [I64 r.kind, S (mkN ω r).1.1, S r.parent, S r.user, S r.service, S r.url, I64 ω.now, I64 ω.now, I64 r.uses, .bool r.fresh] 45 :: As)) ?_ ?_
 ·
  refine .drawn (fun w => ∃ R, Sat B w I (blk b2 [ptr p.wb 0] 39 :: blk p.wb (wdC p ω) 52 :: R)) (fun j => !([].contains j)) (by kernel_rfl) ?_
  replace hS := hS.drew; generalize w.drew = w at hS ⊢
  have hH : ∃ R, Sat B w I (blk b2 [ptr p.wb 0] 39 :: blk p.wb (wdC p ω) 52 :: R) := ⟨_, ((hS.pick 3 rfl).pick 3 rfl)⟩
  refine .takeP (i := 0) rfl (by kernel_rfl) (by kernel_rfl) (by kernel_rfl) (fun w => (.move (.of rfl))) rfl ?_
  refine WD.take (i := 1) rfl (by kernel_rfl) (by kernel_rfl) (by kernel_rfl) (by kernel_rfl) hH (fun w ⟨R, hS⟩ => (by first | exact (.ld (.of rfl) hS (k := 0) rfl Tryz.isAgg39 rfl) | exact (.ld (.of rfl) hS (k := 1) rfl Tryz.isAgg39 rfl))) rfl ?_
  refine .takeP (i := 2) rfl (by kernel_rfl) (by kernel_rfl) (by kernel_rfl) (fun w => (.nilCheck (.of rfl))) rfl ?_
  refine WD.takeP (i := 3) rfl (by kernel_rfl) (by kernel_rfl) (by kernel_rfl) (fun w => (by first | exact .fieldAddr 25 (.of rfl) Tryz.underlying52 rfl rfl Tryz.sizeOf3 rfl | exact .fieldAddrI 25 (.of rfl) Tryz.underlying52 rfl rfl Tryz.sizeOf3 rfl)) rfl ?_
  refine WD.take (i := 4) rfl (by kernel_rfl) (by kernel_rfl) (by kernel_rfl) (by kernel_rfl) hH (fun w ⟨R, hS⟩ => (by first | exact (.ld (.of rfl) hS (k := 0) rfl Tryz.isAgg3 rfl) | exact (.ld (.of rfl) hS (k := 1) rfl Tryz.isAgg3 rfl))) rfl ?_
  refine WD.take (i := 5) rfl (by kernel_rfl) (by kernel_rfl) (by kernel_rfl) (by kernel_rfl) hH (fun w ⟨R, hS⟩ => (by first | exact (.ld (.of rfl) hS (k := 0) rfl Tryz.isAgg39 rfl) | exact (.ld (.of rfl) hS (k := 1) rfl Tryz.isAgg39 rfl))) rfl ?_
  refine .takeP (i := 6) rfl (by kernel_rfl) (by kernel_rfl) (by kernel_rfl) (fun w => (.nilCheck (.of rfl))) rfl ?_
  refine WD.takeP (i := 7) rfl (by kernel_rfl) (by kernel_rfl) (by kernel_rfl) (fun w => (by first | exact .fieldAddr 25 (.of rfl) Tryz.underlying52 rfl rfl Tryz.sizeOf3 rfl | exact .fieldAddrI 25 (.of rfl) Tryz.underlying52 rfl rfl Tryz.sizeOf3 rfl)) rfl ?_
  refine WD.take (i := 8) rfl (by kernel_rfl) (by kernel_rfl) (by kernel_rfl) (by kernel_rfl) hH (fun w ⟨R, hS⟩ => (by first | exact (.ld (.of rfl) hS (k := 0) rfl Tryz.isAgg3 rfl) | exact (.ld (.of rfl) hS (k := 1) rfl Tryz.isAgg3 rfl))) rfl ?_
  refine WD.takeP (i := 9) rfl (by kernel_rfl) (by kernel_rfl) (by kernel_rfl) (fun w => (by first | exact .fieldAddr 1 (.of rfl) Tryz.underlying45 rfl rfl Tryz.sizeOf9 rfl | exact .fieldAddrI 1 (.of rfl) Tryz.underlying45 rfl rfl Tryz.sizeOf9 rfl)) rfl ?_
  refine WD.branch [10] (by kernel_rfl) rfl (WO.cons rfl ?_ (WO.nil))
  first | refine WL.st1 hS (k := 0) rfl (.of rfl) (.of rfl) rfl Tryz.sizeOf9 (by simp) ?_ | refine WL.st1 hS (k := 1) rfl (.of rfl) (.of rfl) rfl Tryz.sizeOf9 (by simp) ?_ | refine WL.st1 hS (k := 2) rfl (.of rfl) (.of rfl) rfl Tryz.sizeOf9 (by simp) ?_ | refine WL.st1 hS (k := 3) rfl (.of rfl) (.of rfl) rfl Tryz.sizeOf9 (by simp) ?_ | refine WL.st1 hS (k := 4) rfl (.of rfl) (.of rfl) rfl Tryz.sizeOf9 (by simp) ?_ | refine WL.st1 hS (k := 5) rfl (.of rfl) (.of rfl) rfl Tryz.sizeOf9 (by simp) ?_ | refine WL.st1 hS (k := 6) rfl (.of rfl) (.of rfl) rfl Tryz.sizeOf9 (by simp) ?_
  clear hS; intro w hS; try dsimp only [List.set] at hS
  refine .nil ?_
  clear hH
  have hH : ∃ R, Sat B w I (blk b2 [ptr p.wb 0] 39 :: blk p.wb (wdC p ω) 52 :: R) := ⟨_, ((hS.pick 3 rfl).pick 3 rfl)⟩
  refine And.intro (by intro _ _; exact hH) ?_
  refine WD.takeP (i := 11) rfl (by kernel_rfl) (by kernel_rfl) (by kernel_rfl) (fun w => (by first | exact .fieldAddr 6 (.of rfl) Tryz.underlying45 rfl rfl Tryz.sizeOf3 rfl | exact .fieldAddrI 6 (.of rfl) Tryz.underlying45 rfl rfl Tryz.sizeOf3 rfl)) rfl ?_
  refine WD.branch [12] (by kernel_rfl) rfl (WO.cons rfl ?_ (WO.nil))
  first | refine WL.st1 hS (k := 0) rfl (.of rfl) (.of rfl) rfl Tryz.sizeOf3 (by simp) ?_ | refine WL.st1 hS (k := 1) rfl (.of rfl) (.of rfl) rfl Tryz.sizeOf3 (by simp) ?_ | refine WL.st1 hS (k := 2) rfl (.of rfl) (.of rfl) rfl Tryz.sizeOf3 (by simp) ?_ | refine WL.st1 hS (k := 3) rfl (.of rfl) (.of rfl) rfl Tryz.sizeOf3 (by simp) ?_ | refine WL.st1 hS (k := 4) rfl (.of rfl) (.of rfl) rfl Tryz.sizeOf3 (by simp) ?_ | refine WL.st1 hS (k := 5) rfl (.of rfl) (.of rfl) rfl Tryz.sizeOf3 (by simp) ?_ | refine WL.st1 hS (k := 6) rfl (.of rfl) (.of rfl) rfl Tryz.sizeOf3 (by simp) ?_
  clear hS; intro w hS; try dsimp only [List.set] at hS
  refine .nil ?_
  clear hH
  have hH : ∃ R, Sat B w I (blk b2 [ptr p.wb 0] 39 :: blk p.wb (wdC p ω) 52 :: R) := ⟨_, ((hS.pick 3 rfl).pick 3 rfl)⟩
  refine And.intro (by intro _ _; exact hH) ?_
  refine WD.takeP (i := 13) rfl (by kernel_rfl) (by kernel_rfl) (by kernel_rfl) (fun w => (by first | exact .fieldAddr 7 (.of rfl) Tryz.underlying45 rfl rfl Tryz.sizeOf3 rfl | exact .fieldAddrI 7 (.of rfl) Tryz.underlying45 rfl rfl Tryz.sizeOf3 rfl)) rfl ?_
  refine WD.branch [14] (by kernel_rfl) rfl (WO.cons rfl ?_ (WO.nil))
  first | refine WL.st1 hS (k := 0) rfl (.of rfl) (.of rfl) rfl Tryz.sizeOf3 (by simp) ?_ | refine WL.st1 hS (k := 1) rfl (.of rfl) (.of rfl) rfl Tryz.sizeOf3 (by simp) ?_ | refine WL.st1 hS (k := 2) rfl (.of rfl) (.of rfl) rfl Tryz.sizeOf3 (by simp) ?_ | refine WL.st1 hS (k := 3) rfl (.of rfl) (.of rfl) rfl Tryz.sizeOf3 (by simp) ?_ | refine WL.st1 hS (k := 4) rfl (.of rfl) (.of rfl) rfl Tryz.sizeOf3 (by simp) ?_ | refine WL.st1 hS (k := 5) rfl (.of rfl) (.of rfl) rfl Tryz.sizeOf3 (by simp) ?_ | refine WL.st1 hS (k := 6) rfl (.of rfl) (.of rfl) rfl Tryz.sizeOf3 (by simp) ?_
  clear hS; intro w hS; try dsimp only [List.set] at hS
  refine .nil ?_
  clear hH
  have hH : ∃ R, Sat B w I (blk b2 [ptr p.wb 0] 39 :: blk p.wb (wdC p ω) 52 :: R) := ⟨_, ((hS.pick 3 rfl).pick 3 rfl)⟩
  refine And.intro (by intro _ _; exact hH) ?_
  refine .done (by kernel_rfl) ?_
  exact ⟨(), ⟨rfl, rfl, rfl, trivial⟩, hS⟩
 rintro _ w hS
 change WC _ _ _ _ [(2, ptr b2 0), (3, ptr b3 0), (6, S (mkN ω r).1.1)] w
 refine .seq (.seq (.drawn (fun w => ∃ R, Sat B w I (blk b2 [ptr p.wb 0] 39 :: blk b3 [I64 r.kind, S (mkN ω r).1.1, S r.parent, S r.user, S r.service, S r.url, I64 ω.now, I64 ω.now, I64 r.uses, .bool r.fresh] 45 :: blk p.wb (wdC p ω) 52 :: R)) (fun j => !([].contains j)) (by kernel_rfl) ?_))
 replace hS := hS.drew; generalize w.drew = w at hS ⊢
 have hH : ∃ R, Sat B w I (blk b2 [ptr p.wb 0] 39 :: blk b3 [I64 r.kind, S (mkN ω r).1.1, S r.parent, S r.user, S r.service, S r.url, I64 ω.now, I64 ω.now, I64 r.uses, .bool r.fresh] 45 :: blk p.wb (wdC p ω) 52 :: R) := ⟨_, (((hS.pick 3 rfl).pick 6 rfl).pick 4 rfl)⟩
 refine WD.take (i := 0) rfl (by kernel_rfl) (by kernel_rfl) (by kernel_rfl) (by kernel_rfl) hH (fun w ⟨R, hS⟩ => (by first | exact (.ld (.of rfl) hS (k := 0) rfl Tryz.isAgg39 rfl) | exact (.ld (.of rfl) hS (k := 1) rfl Tryz.isAgg39 rfl) | exact (.ld (.of rfl) hS (k := 2) rfl Tryz.isAgg39 rfl))) rfl ?_
 refine .takeP (i := 1) rfl (by kernel_rfl) (by kernel_rfl) (by kernel_rfl) (fun w => (.nilCheck (.of rfl))) rfl ?_
 refine WD.takeP (i := 2) rfl (by kernel_rfl) (by kernel_rfl) (by kernel_rfl) (fun w => (by first | exact .fieldAddr 0 (.of rfl) Tryz.underlying52 rfl rfl Tryz.sizeOf47 rfl | exact .fieldAddrI 0 (.of rfl) Tryz.underlying52 rfl rfl Tryz.sizeOf47 rfl)) rfl ?_
 refine WD.take (i := 3) rfl (by kernel_rfl) (by kernel_rfl) (by kernel_rfl) (by kernel_rfl) hH (fun w ⟨R, hS⟩ => (by first | exact (.ld (.of rfl) hS (k := 0) rfl Tryz.isAgg47 rfl) | exact (.ld (.of rfl) hS (k := 1) rfl Tryz.isAgg47 rfl) | exact (.ld (.of rfl) hS (k := 2) rfl Tryz.isAgg47 rfl))) rfl ?_
 refine WD.take (i := 4) rfl (by kernel_rfl) (by kernel_rfl) (by kernel_rfl) (by kernel_rfl) hH (fun w ⟨R, hS⟩ => (by first | exact (.ldsW (cs := [_, _, _, _, _, _, _, _, _, _]) (.of rfl) hS (k := 0) rfl Tryz.isAgg45 Tryz.sizeOf45 rfl) | exact (.lds (vs := [_, _, _, _, _, _, _, _, _, _]) (.of rfl) hS (k := 0) rfl Tryz.isAgg45 Tryz.sizeOf45 rfl (fun _ _ h => h)) | exact (.ldsW (cs := [_, _, _, _, _, _, _, _, _, _]) (.of rfl) hS (k := 1) rfl Tryz.isAgg45 Tryz.sizeOf45 rfl) | exact (.lds (vs := [_, _, _, _, _, _, _, _, _, _]) (.of rfl) hS (k := 1) rfl Tryz.isAgg45 Tryz.sizeOf45 rfl (fun _ _ h => h)) | exact (.ldsW (cs := [_, _, _, _, _, _, _, _, _, _]) (.of rfl) hS (k := 2) rfl Tryz.isAgg45 Tryz.sizeOf45 rfl) | exact (.lds (vs := [_, _, _, _, _, _, _, _, _, _]) (.of rfl) hS (k := 2) rfl Tryz.isAgg45 Tryz.sizeOf45 rfl (fun _ _ h => h)))) rfl ?_
 refine WD.branch [5] (by kernel_rfl) rfl (WO.cons rfl ?_ (WO.nil))
 refine WL.call Tryz.func57 rfl (evs_cons (.of rfl) (evs_cons (.of rfl) evs_nil)) rfl (Add_any p.tb ω.room a c ω.l (by omega) (mkR ω r) (by have := nextT_len (pr := fun s => (get ω.l s).isSome) (kind := r.kind) (D := ω.D); exact Nat.le_trans this (by decide)) hrp B _ I hI.known hI.pre _ ((hS.pick 5 rfl).pick 5 rfl)) ?_
 clear hS
 rintro _ w ⟨rfl, a2, c2, hS⟩
 try dsimp only [List.eraseIdx] at hS
 refine .nil ?_
 clear hH
 have hH : ∃ R, Sat B w I (blk b2 [ptr p.wb 0] 39 :: blk b3 [I64 r.kind, S (mkN ω r).1.1, S r.parent, S r.user, S r.service, S r.url, I64 ω.now, I64 ω.now, I64 r.uses, .bool r.fresh] 45 :: blk p.wb (wdC p ω) 52 :: R) := ⟨_, (((hS.pick 5 rfl).pick 6 rfl).pick 6 rfl)⟩
 refine And.intro (by intro _ _; exact hH) ?_
 refine .takeP (i := 6) rfl (by kernel_rfl) (by kernel_rfl) (by kernel_rfl) (fun w => (.neq (.of rfl) (.of rfl))) rfl (.done (by kernel_rfl) ?_)
 refine WC.cond rfl (fun hb39 => ?_) (fun hb39 => ?_)
 ·
  have hc39 := hb39; try simp only [Gk.cs0] at hc39
  refine .seq (.region (.run 2 rfl trivial (.nil (.ret (ret2 Tryz.results49 rfl rfl ?_)))))
  have hE : mkW ω r = (([], 39), { ω with D := (mkN ω r).2, l := add ω.room ω.l (mkR ω r) }) := by
   rw [mkW, if_neg (by simpa [mkN] using hb20), if_pos (by simpa using hb39)]
  rw [hE]
  replace hS := ((hS.pick 5 rfl).drop (k := 5) rfl).drop (k := 5) rfl
  try dsimp only [List.eraseIdx] at hS
  exact ⟨_, rfl, rfl, Sat.box (T := wdT p _) (a2, c2, ma2, mc2) hS⟩
 have hc39 := hb39; try simp only [Gk.cs0] at hc39
 refine .skip (.seq (.region (.run 3 rfl trivial (.nil (.ret (ret2 Tryz.results49 rfl rfl ?_))))))
 have hE : mkW ω r = (((mkN ω r).1.1, 0), { ω with D := (mkN ω r).2, l := add ω.room ω.l (mkR ω r) }) := by
  rw [mkW, if_neg (by simpa [mkN] using hb20), if_neg (by simpa using hb39)]
 rw [hE]
 replace hS := ((hS.pick 5 rfl).drop (k := 5) rfl).drop (k := 5) rfl
 try dsimp only [List.eraseIdx] at hS
 exact ⟨_, rfl, rfl, Sat.box (T := wdT p _) (a2, c2, ma2, mc2) hS⟩
end Go.Proofs.YtadhiihnnkcagaaGreatDoor
namespace Go.Proofs.YtadhiihnnkcagaaGreatDoor
open Gk Ul Pc Tk Tr
set_option linter.unusedVariables false
set_option linter.unusedSimpArgs false
theorem bld45_43 : Bld Tryz.prog 45 [(0, 1), (1, 1), (2, 1), (3, 1), (4, 1), (5, 1), (6, 1), (7, 1), (8, 1), (9, 1)] [.int .i64 0, S [], S [], S [], S [], S [], .int .i64 0, .int .i64 0, .int .i64 0, .bool false] := bld_of Tryz.underlying45 Tryz.zeroValue45 (fun w => by simp [go_sem])
theorem rec_short {r : Rec} (h : rightR r = true) : r.name.length ≤ 23 ∧ r.parent.length ≤ 23 := by
 unfold rightR at h
 simp only [Bool.and_eq_true] at h
 obtain ⟨⟨_, h1⟩, h2⟩ := h
 constructor
 ·unfold isT at h1
  cases hp : parseT r.name with
  | none => rw [hp] at h1; cases h1
  | some x => exact (parse_some (k := x.1) (d := x.2) hp).2.2.2.1
 ·unfold parentOk at h2
  split at h2
  ·rename_i e; rw [e]; simp
  ·cases hp : parseT r.parent with
   | none => rw [hp] at h2; cases h2
   | some x => exact (parse_some (k := x.1) (d := x.2) hp).2.2.2.1
theorem getD_case {l : List Rec} (hw : Wf l) (name : List UInt8) : (get l name = none ∧ getD l name = r0) ∨ (get l name = some (getD l name) ∧ rightR (getD l name) = true ∧ (getD l name).name = name) := by
 rcases Tr.get_at l name with ⟨_, h⟩ | ⟨j, r, _, h2, h3, h4⟩
 ·exact .inl ⟨h, by rw [getD, h]; rfl⟩
 ·have e : getD l name = r := by rw [getD, h4]; rfl
  exact .inr ⟨by rw [e]; exact h4, by rw [e]; exact hw.right r (List.mem_of_getElem? h2), by rw [e]; exact h3⟩
theorem getD_short {l : List Rec} (hw : Wf l) (name : List UInt8) : (getD l name).name.length ≤ 23 ∧ (getD l name).parent.length ≤ 23 ∧ 0 ≤ (getD l name).uses ∧ (getD l name).uses ≤ 255 := by
 rcases getD_case hw name with ⟨_, e⟩ | ⟨_, h, _⟩
 ·rw [e]; decide
 ·have h1 := rec_short h
  have h2 := right_times h
  exact ⟨h1.1, h1.2, h2.2.2⟩
theorem LoginTicket_any (p : Wp) (ω : Wd) (hω : WdOk ω) (B w : World) (I : Im) (hI : WpOk I p) (As : List Assn) (hS : Sat B w I (wdA p ω :: As)) :
  Calls Tryz.prog 43 [ptr p.wb 0].toArray w (Ret fun v w' => v = .tuple #[S (mkW ω ⟨6, [], [], [], [], [], 0, 0, 0, false⟩).1.1, I64 ((mkW ω ⟨6, [], [], [], [], [], 0, 0, 0, false⟩).1.2 : Nat)] ∧ Sat B w' I (wdA p (mkW ω ⟨6, [], [], [], [], [], 0, 0, 0, false⟩).2 :: As)) := by
 refine calls Tryz.func43 rfl Tryz.ntmps43 rfl (.seq (.region (.run 2 rfl trivial (.nil (.seq (.region (.run 1 rfl trivial (.val (.build (cs := [_, _, _, _, _, _, _, _, _, _]) (parts_cons (.of rfl) parts_nil) bld45_43 rfl) rfl (.call Tryz.func49 rfl (evs_cons (.of rfl) (evs_cons (.of rfl) evs_nil)) rfl (Make_any (⟨6, [], [], [], [], [], 0, 0, 0, false⟩) (by simp) p ω hω B _ I hI _ hS) ?_)))))))))
 clear hS
 rintro _ w ⟨rfl, hS⟩
 try dsimp only [List.eraseIdx] at hS
 refine .run 4 rfl trivial (.nil (.ret (ret2 Tryz.results43 rfl rfl ?_)))
 exact ⟨_, rfl, rfl, hS⟩
def dropW (ω : Wd) (name : List UInt8) : Wd := { ω with l := drop ω.l name }
theorem dropW_ok {ω : Wd} (h : WdOk ω) (name : List UInt8) : WdOk (dropW ω name) := ⟨Nat.le_trans (drop_sub ω.l name).length_le h.len, h.wf.drop name, h.D, h.now, h.room⟩
def loginW (us : List Us) (ps : Nat → Int) (ω : Wd) (lt user pw : List UInt8) : (List UInt8 × Nat) × Wd :=
 if (aliveW ps ω lt 6).2 = false then (([], 38), ω)
 else if checkU us user pw = false then (([], 37), dropW ω lt)
 else ((mkW ω ⟨1, [], [], user, [], [], 0, 0, 0, true⟩).1, if (mkW ω ⟨1, [], [], user, [], [], 0, 0, 0, true⟩).1.2 = 0 then dropW (mkW ω ⟨1, [], [], user, [], [], 0, 0, 0, true⟩).2 lt else (mkW ω ⟨1, [], [], user, [], [], 0, 0, 0, true⟩).2)
theorem loginW_ok {us : List Us} {ps : Nat → Int} {ω : Wd} (h : WdOk ω) (lt user pw : List UInt8) : WdOk (loginW us ps ω lt user pw).2 := by
 unfold loginW
 split
 ·exact h
 ·split
  ·exact dropW_ok h lt
  ·try dsimp only
   split
   ·exact dropW_ok (mkW_ok h _) lt
   ·exact mkW_ok h _
theorem Login_any (lt user pw : List UInt8) (hpw : pw.length ≤ 9223372036854775807) (p : Wp) (ω : Wd) (hω : WdOk ω) (B w : World) (I : Im) (hI : WpOk I p) (As : List Assn) (hS : Sat B w I (wdA p ω :: As)) :
  Calls Tryz.prog 37 [ptr p.wb 0, S lt, S user, S pw].toArray w (Ret fun v w' => v = .tuple #[S (loginW p.us p.ps ω lt user pw).1.1, I64 ((loginW p.us p.ps ω lt user pw).1.2 : Nat)] ∧ Sat B w' I (wdA p (loginW p.us p.ps ω lt user pw).2 :: As)) := by
 refine calls Tryz.func37 rfl Tryz.ntmps37 rfl (.seq (.region (.run 2 rfl trivial (.nil (.seq (.seq (.region (.run 2 rfl trivial (.call Tryz.func21 rfl (evs_cons (.of rfl) (evs_cons (.of rfl) (evs_cons (.of rfl) evs_nil))) rfl (Alive_any lt 6 p ω hω B _ I _ hS) ?_)))))))))
 clear hS
 rintro _ w ⟨rfl, hS⟩
 try dsimp only [List.eraseIdx] at hS
 refine .run 3 rfl trivial (.allocA (cs := [_, _, _, _, _, _, _, _, _, _]) hS Tryz.zeroValue45 rfl ?_)
 clear hS; intro b10 w hS
 first | refine WL.stA hS (k := 0) rfl (.of rfl) (.of rfl) rfl Tryz.sizeOf45 rfl (by simp) ?_ | refine WL.stA hS (k := 1) rfl (.of rfl) (.of rfl) rfl Tryz.sizeOf45 rfl (by simp) ?_
 clear hS; intro w hS; try dsimp only [List.set] at hS
 try simp only [List.take_zero, List.nil_append, List.append_nil, List.drop_succ_cons, List.drop_zero, List.drop_nil, Nat.zero_add] at hS
 refine .run 1 rfl trivial (.nil (.seq (.region (.run 2 rfl trivial (.nil ?_)))))
 refine WC.cond rfl (fun hb21 => ?_) (fun hb21 => ?_)
 ·
  have hc21 := hb21; try simp only [Gk.cs0] at hc21
  refine .seq (.region (.run 2 rfl trivial (.nil (.ret (ret2 Tryz.results37 rfl rfl ?_)))))
  have hE : loginW p.us p.ps ω lt user pw = (([], 38), ω) := by rw [loginW, if_pos (by simpa using hb21)]
  rw [hE]
  exact ⟨_, rfl, rfl, hS.drop (k := 0) rfl⟩
 have hc21 := hb21; try simp only [Gk.cs0] at hc21
 refine .skip (.seq (.seq ?_))
 replace hS := (hS.pick 1 rfl)
 try dsimp only [List.eraseIdx] at hS
 obtain ⟨⟨a, c, ma, mc⟩, hS⟩ := Sat.unbox hS
 replace hS : Sat B _ _ (blk p.wb (wdC p ω) 52 :: blk p.tb [I64 ω.room, .slice a ω.l.length c] 127 :: Vec 45 10 (.slice a ω.l.length c) ω.l.length (rowsR ω.l) :: blk p.mb [.slice ma ω.D.length mc] 168 :: VecO 118 (.slice ma ω.D.length mc) (ω.D.map fun d => U64 (d : Nat)) :: _) := hS
 have hlen := hω.len
 have hwf := hω.wf
 refine .region (.run 2 rfl trivial ?_)
 first | refine WL.val (.fieldAddr 3 (.of rfl) Tryz.underlying52 rfl rfl Tryz.sizeOf50 rfl) rfl ?_ | refine WL.val (.fieldAddrI 3 (.of rfl) Tryz.underlying52 rfl rfl Tryz.sizeOf50 rfl) rfl ?_
 first | refine WL.val (.ld (.of rfl) hS (k := 0) rfl Tryz.isAgg50 rfl) rfl ?_ | refine WL.val (.ld (.of rfl) hS (k := 1) rfl Tryz.isAgg50 rfl) rfl ?_ | refine WL.val (.ld (.of rfl) hS (k := 2) rfl Tryz.isAgg50 rfl) rfl ?_ | refine WL.val (.ld (.of rfl) hS (k := 3) rfl Tryz.isAgg50 rfl) rfl ?_ | refine WL.val (.ld (.of rfl) hS (k := 4) rfl Tryz.isAgg50 rfl) rfl ?_ | refine WL.val (.ld (.of rfl) hS (k := 5) rfl Tryz.isAgg50 rfl) rfl ?_
 refine .run 2 rfl trivial (.call Tryz.func84 rfl (evs_cons (.of rfl) (evs_cons (.of rfl) (evs_cons (.of rfl) evs_nil))) rfl (uCheck_any p.ub p.us hI.fit user pw hpw B _ I hI.tab _ hS) ?_)
 clear hS
 rintro _ w ⟨rfl, hS⟩
 refine .run 1 rfl trivial (.nil ?_)
 refine WC.cond rfl (fun hb29 => ?_) (fun hb29 => ?_)
 ·
  have hc29 := hb29; try simp only [Gk.cs0] at hc29
  refine .seq (.region (.run 2 rfl trivial ?_))
  first | refine WL.val (.fieldAddr 0 (.of rfl) Tryz.underlying52 rfl rfl Tryz.sizeOf47 rfl) rfl ?_ | refine WL.val (.fieldAddrI 0 (.of rfl) Tryz.underlying52 rfl rfl Tryz.sizeOf47 rfl) rfl ?_
  first | refine WL.val (.ld (.of rfl) hS (k := 0) rfl Tryz.isAgg47 rfl) rfl ?_ | refine WL.val (.ld (.of rfl) hS (k := 1) rfl Tryz.isAgg47 rfl) rfl ?_ | refine WL.val (.ld (.of rfl) hS (k := 2) rfl Tryz.isAgg47 rfl) rfl ?_ | refine WL.val (.ld (.of rfl) hS (k := 3) rfl Tryz.isAgg47 rfl) rfl ?_ | refine WL.val (.ld (.of rfl) hS (k := 4) rfl Tryz.isAgg47 rfl) rfl ?_ | refine WL.val (.ld (.of rfl) hS (k := 5) rfl Tryz.isAgg47 rfl) rfl ?_
  refine .run 1 rfl trivial ?_
  refine WL.call Tryz.func50 rfl (evs_cons (.of rfl) (evs_cons (.of rfl) evs_nil)) rfl (Drop_any p.tb ω.room a c ω.l (by have := hlen; omega) hwf lt B _ I _ ((hS.pick 2 rfl).pick 2 rfl)) ?_
  clear hS
  rintro _ w ⟨J, ga, gc, rfl, hJ, hgc, hRS, a9, c9, hS⟩
  try dsimp only [List.eraseIdx] at hS
  replace hS := hS.weaken hJ
  refine .nil (.seq (.region (.run 2 rfl trivial (.nil (.ret (ret2 Tryz.results37 rfl rfl ?_))))))
  have hE : loginW p.us p.ps ω lt user pw = (([], 37), dropW ω lt) := by rw [loginW, if_neg (by rw [show (aliveW p.ps ω lt 6).2 = true from by simpa using hb21]; decide), if_pos (by simpa using hb29)]
  rw [hE]
  exact ⟨_, rfl, rfl, Sat.box (T := wdT p (dropW ω lt)) (a9, c9, ma, mc) ((((((hS.drop (k := 5) rfl).pick 4 rfl).pick 4 rfl).pick 3 rfl).pick 3 rfl).pick 4 rfl)⟩
 have hc29 := hb29; try simp only [Gk.cs0] at hc29
 refine .skip (.seq ?_)
 replace hS := Sat.box (T := wdT p _) (a, c, ma, mc) (((((hS.pick 4 rfl).pick 4 rfl).pick 4 rfl).pick 4 rfl).pick 4 rfl)
 try dsimp only [List.eraseIdx] at hS
 refine .region (.run 2 rfl trivial (.val (.build (cs := [_, _, _, _, _, _, _, _, _, _]) (parts_cons (.of rfl) (parts_cons (.of rfl) (parts_cons (.of rfl) parts_nil))) bld45_43 rfl) rfl (.call Tryz.func49 rfl (evs_cons (.of rfl) (evs_cons (.of rfl) evs_nil)) rfl (Make_any (⟨1, [], [], user, [], [], 0, 0, 0, true⟩) (by simp) p ω hω B _ I hI _ hS) ?_)))
 clear hS
 rintro _ w ⟨rfl, hS⟩
 try dsimp only [List.eraseIdx] at hS
 refine .run 5 rfl trivial (.nil (.seq (.seq (.region (.run 2 rfl trivial (.nil ?_))))))
 refine WC.cond rfl (fun hb44 => ?_) (fun hb44 => ?_)
 ·
  have hc44 := hb44; try simp only [Gk.cs0] at hc44
  obtain ⟨⟨a2, c2, ma2, mc2⟩, hS⟩ := Sat.unbox hS
  replace hS : Sat B _ _ (blk p.wb (wdC p (mkW ω ⟨1, [], [], user, [], [], 0, 0, 0, true⟩).2) 52 :: blk p.tb [I64 (mkW ω ⟨1, [], [], user, [], [], 0, 0, 0, true⟩).2.room, .slice a2 (mkW ω ⟨1, [], [], user, [], [], 0, 0, 0, true⟩).2.l.length c2] 127 :: Vec 45 10 (.slice a2 (mkW ω ⟨1, [], [], user, [], [], 0, 0, 0, true⟩).2.l.length c2) (mkW ω ⟨1, [], [], user, [], [], 0, 0, 0, true⟩).2.l.length (rowsR (mkW ω ⟨1, [], [], user, [], [], 0, 0, 0, true⟩).2.l) :: blk p.mb [.slice ma2 (mkW ω ⟨1, [], [], user, [], [], 0, 0, 0, true⟩).2.D.length mc2] 168 :: VecO 118 (.slice ma2 (mkW ω ⟨1, [], [], user, [], [], 0, 0, 0, true⟩).2.D.length mc2) ((mkW ω ⟨1, [], [], user, [], [], 0, 0, 0, true⟩).2.D.map fun d => U64 (d : Nat)) :: _) := hS
  have hω2 := mkW_ok hω ⟨1, [], [], user, [], [], 0, 0, 0, true⟩
  have hlen2 := hω2.len
  have hwf2 := hω2.wf
  refine .region (.run 2 rfl trivial ?_)
  first | refine WL.val (.fieldAddr 0 (.of rfl) Tryz.underlying52 rfl rfl Tryz.sizeOf47 rfl) rfl ?_ | refine WL.val (.fieldAddrI 0 (.of rfl) Tryz.underlying52 rfl rfl Tryz.sizeOf47 rfl) rfl ?_
  first | refine WL.val (.ld (.of rfl) hS (k := 0) rfl Tryz.isAgg47 rfl) rfl ?_ | refine WL.val (.ld (.of rfl) hS (k := 1) rfl Tryz.isAgg47 rfl) rfl ?_ | refine WL.val (.ld (.of rfl) hS (k := 2) rfl Tryz.isAgg47 rfl) rfl ?_ | refine WL.val (.ld (.of rfl) hS (k := 3) rfl Tryz.isAgg47 rfl) rfl ?_ | refine WL.val (.ld (.of rfl) hS (k := 4) rfl Tryz.isAgg47 rfl) rfl ?_ | refine WL.val (.ld (.of rfl) hS (k := 5) rfl Tryz.isAgg47 rfl) rfl ?_
  refine .run 1 rfl trivial ?_
  refine WL.call Tryz.func50 rfl (evs_cons (.of rfl) (evs_cons (.of rfl) evs_nil)) rfl (Drop_any p.tb (mkW ω ⟨1, [], [], user, [], [], 0, 0, 0, true⟩).2.room a2 c2 (mkW ω ⟨1, [], [], user, [], [], 0, 0, 0, true⟩).2.l (by have := hlen2; omega) hwf2 lt B _ I _ ((hS.pick 2 rfl).pick 2 rfl)) ?_
  clear hS
  rintro _ w ⟨J, ga, gc, rfl, hJ, hgc, hRS, a9, c9, hS⟩
  try dsimp only [List.eraseIdx] at hS
  replace hS := hS.weaken hJ
  refine .nil (.seq (.region (.run 4 rfl trivial (.nil (.ret (ret2 Tryz.results37 rfl rfl ?_))))))
  have hE : loginW p.us p.ps ω lt user pw = ((mkW ω ⟨1, [], [], user, [], [], 0, 0, 0, true⟩).1, dropW (mkW ω ⟨1, [], [], user, [], [], 0, 0, 0, true⟩).2 lt) := by rw [loginW, if_neg (by rw [show (aliveW p.ps ω lt 6).2 = true from by simpa using hb21]; decide), if_neg (by simpa using hb29), if_pos (by simpa using hb44)]
  rw [hE]
  exact ⟨_, rfl, rfl, Sat.box (T := wdT p (dropW (mkW ω ⟨1, [], [], user, [], [], 0, 0, 0, true⟩).2 lt)) (a9, c9, ma2, mc2) ((((((hS.drop (k := 5) rfl).pick 4 rfl).pick 4 rfl).pick 3 rfl).pick 3 rfl).pick 4 rfl)⟩
 have hc44 := hb44; try simp only [Gk.cs0] at hc44
 refine .skip (.seq (.region (.run 4 rfl trivial (.nil (.ret (ret2 Tryz.results37 rfl rfl ?_))))))
 have hE : loginW p.us p.ps ω lt user pw = ((mkW ω ⟨1, [], [], user, [], [], 0, 0, 0, true⟩).1, (mkW ω ⟨1, [], [], user, [], [], 0, 0, 0, true⟩).2) := by rw [loginW, if_neg (by rw [show (aliveW p.ps ω lt 6).2 = true from by simpa using hb21]; decide), if_neg (by simpa using hb29), if_neg (by simpa using hb44)]
 rw [hE]
 exact ⟨_, rfl, rfl, (hS.drop (k := 1) rfl)⟩
structure Ak where
 service : List UInt8
 cookie : List UInt8
 has : Bool
 renew : Bool
 gateway : Bool
 warn : Bool
def akCells (q : Ak) : List Value := [S q.service, S q.cookie, .bool q.has, .bool q.renew, .bool q.gateway, .bool q.warn]
def chooseW (lo : List Sv) (ps : Nat → Int) (ω : Wd) (q : Ak) : Nat :=
 if (q.has && (((findR lo q.service).2.2 : Nat) : Int) != 0) = true then 6
 else if (!q.has && (aliveW ps ω q.cookie 1).2) = true then 5
 else if (!q.has || q.renew) = true then 1
 else if (((aliveW ps ω q.cookie 1).2 && (findR lo q.service).1.login) && q.warn) = true then 4
 else if ((aliveW ps ω q.cookie 1).2 && (findR lo q.service).1.login) = true then 2
 else if q.gateway = true then 3 else 1
theorem FindJ_any (s : List UInt8) (hs : s.length ≤ 1000000) (p : Wp) (B w : World) (I : Im) (hI : WpOk I p) (As : List Assn) (hS : Sat B w I As) :
  Calls Tryz.prog 40 [.pointer (some p.pr), S s].toArray w (Ret fun v w' => ∃ J ra rc, Le I J ∧ v = .tuple #[.agg (svCells (findR p.lo s).1 ra rc).toArray, S (findR p.lo s).2.1, I64 (((findR p.lo s).2.2 : Nat) : Int)] ∧ (findR p.lo s).1.rel.length ≤ rc ∧ RS J ra 1 (findR p.lo s).1.rel.length ((findR p.lo s).1.rel.map S) ∧ Sat B w' J As) := by
 obtain ⟨a, c, E, h1, h2, h3⟩ := hI.reg
 refine (RegFind_any p.pr p.lo hI.lo hI.rel s hs a c E B w I hI.known h1 h3 As hS).mono fun e w' ⟨v, he, J, u, cs, n, e2, hJ, hv, ⟨ra, rc, hcs, h4, h5⟩, hf, hS⟩ => ⟨v, he, J, ra, rc, hJ, ?_⟩
 rw [hf]; subst hcs
 exact ⟨hv, h4, h5, hS⟩
theorem Find_any (s : List UInt8) (hs : s.length ≤ 1000000) (p : Wp) (B w : World) (I : Im) (hI : WpOk I p) (As : List Assn) (hS : Sat B w I As) :
  Calls Tryz.prog 40 [.pointer (some p.pr), S s].toArray w (Ret fun v w' => ∃ ra rc, v = .tuple #[.agg (svCells (findR p.lo s).1 ra rc).toArray, S (findR p.lo s).2.1, I64 (((findR p.lo s).2.2 : Nat) : Int)] ∧ Sat B w' I As) :=
 (FindJ_any s hs p B w I hI As hS).mono fun e w' ⟨v, he, J, ra, rc, hJ, hv, _, _, hS⟩ => ⟨v, he, ra, rc, hv, hS.weaken hJ⟩
theorem Choose_any (q : Ak) (hqs : q.service.length ≤ 1000000) (p : Wp) (ω : Wd) (hω : WdOk ω) (B w : World) (I : Im) (hI : WpOk I p) (As : List Assn) (hS : Sat B w I (wdA p ω :: As)) :
  Calls Tryz.prog 39 [ptr p.wb 0, .agg (akCells q).toArray].toArray w (Ret fun v w' => v = I64 ((chooseW p.lo p.ps ω q : Nat) : Int) ∧ Sat B w' I (wdA p ω :: As)) := by
 refine calls Tryz.func39 rfl Tryz.ntmps39 rfl (.seq (.region (.boxA (cs := [_, _, _, _, _, _]) hS (.of rfl) rfl ?_)))
 clear hS; intro b3 w hS
 refine .run 1 rfl trivial (.nil (.seq (.region (.run 1 rfl trivial ?_))))
 first | refine WL.val (.fieldAddr 1 (.of rfl) Tryz.underlying95 rfl rfl Tryz.sizeOf9 rfl) rfl ?_ | refine WL.val (.fieldAddrI 1 (.of rfl) Tryz.underlying95 rfl rfl Tryz.sizeOf9 rfl) rfl ?_
 first | refine WL.val (.ld (.of rfl) hS (k := 0) rfl Tryz.isAgg9 rfl) rfl ?_ | refine WL.val (.ld (.of rfl) hS (k := 1) rfl Tryz.isAgg9 rfl) rfl ?_
 refine .call Tryz.func21 rfl (evs_cons (.of rfl) (evs_cons (.of rfl) (evs_cons (.of rfl) evs_nil))) rfl (Alive_any q.cookie 1 p ω hω B _ I _ (hS.pick 1 rfl)) ?_
 clear hS
 rintro _ w ⟨rfl, hS⟩
 try dsimp only [List.eraseIdx] at hS
 refine .run 3 rfl trivial (.allocA (cs := [_, _, _, _, _, _, _, _, _, _]) hS Tryz.zeroValue45 rfl ?_)
 clear hS; intro b5 w hS
 first | refine WL.stA hS (k := 0) rfl (.of rfl) (.of rfl) rfl Tryz.sizeOf45 rfl (by simp) ?_ | refine WL.stA hS (k := 1) rfl (.of rfl) (.of rfl) rfl Tryz.sizeOf45 rfl (by simp) ?_ | refine WL.stA hS (k := 2) rfl (.of rfl) (.of rfl) rfl Tryz.sizeOf45 rfl (by simp) ?_
 clear hS; intro w hS; try dsimp only [List.set] at hS
 try simp only [List.take_zero, List.nil_append, List.append_nil, List.drop_succ_cons, List.drop_zero, List.drop_nil, Nat.zero_add] at hS
 refine .run 1 rfl trivial (.nil ?_)
 refine WC.cutS (σ := Nat × Option Addr × Nat) (fun ⟨b7, ra, rc⟩ => [(0, ptr p.wb 0), (3, ptr b3 0), (6, .bool (aliveW p.ps ω q.cookie 1).2), (7, ptr b7 0), (8, S (findR p.lo q.service).2.1), (9, I64 (((findR p.lo q.service).2.2 : Nat) : Int))]) (fun ⟨b7, ra, rc⟩ w => Sat B w I (blk b7 [I64 (findR p.lo q.service).1.id, F64 (findR p.lo q.service).1.ord, S (findR p.lo q.service).1.urls, .bool (findR p.lo q.service).1.login, .bool (findR p.lo q.service).1.proxy, .bool (findR p.lo q.service).1.back, S (findR p.lo q.service).1.calls, .slice ra (findR p.lo q.service).1.rel.length rc] 101 :: blk b3 [S q.service, S q.cookie, .bool q.has, .bool q.renew, .bool q.gateway, .bool q.warn] 95 :: wdA p ω :: As)) ?_ ?_
 ·
  replace hS := (hS.pick 1 rfl)
  try dsimp only [List.eraseIdx] at hS
  obtain ⟨⟨a, c, ma, mc⟩, hS⟩ := Sat.unbox hS
  replace hS : Sat B _ _ (blk p.wb (wdC p ω) 52 :: blk p.tb [I64 ω.room, .slice a ω.l.length c] 127 :: Vec 45 10 (.slice a ω.l.length c) ω.l.length (rowsR ω.l) :: blk p.mb [.slice ma ω.D.length mc] 168 :: VecO 118 (.slice ma ω.D.length mc) (ω.D.map fun d => U64 (d : Nat)) :: _) := hS
  refine .drawn (fun w => ∃ R, Sat B w I (blk b3 [S q.service, S q.cookie, .bool q.has, .bool q.renew, .bool q.gateway, .bool q.warn] 95 :: blk p.wb (wdC p ω) 52 :: R)) (fun j => !([].contains j)) (by kernel_rfl) ?_
  replace hS := hS.drew; generalize w.drew = w at hS ⊢
  have hH : ∃ R, Sat B w I (blk b3 [S q.service, S q.cookie, .bool q.has, .bool q.renew, .bool q.gateway, .bool q.warn] 95 :: blk p.wb (wdC p ω) 52 :: R) := ⟨_, ((hS.pick 0 rfl).pick 6 rfl)⟩
  refine .takeP (i := 0) rfl (by kernel_rfl) (by kernel_rfl) (by kernel_rfl) (fun w => (.move (.of rfl))) rfl (.takeP (i := 1) rfl (by kernel_rfl) (by kernel_rfl) (by kernel_rfl) (fun w => (.nilCheck (.of rfl))) rfl ?_)
  refine WD.takeP (i := 2) rfl (by kernel_rfl) (by kernel_rfl) (by kernel_rfl) (fun w => (by first | exact .fieldAddr 2 (.of rfl) Tryz.underlying52 rfl rfl Tryz.sizeOf49 rfl | exact .fieldAddrI 2 (.of rfl) Tryz.underlying52 rfl rfl Tryz.sizeOf49 rfl)) rfl ?_
  refine WD.take (i := 3) rfl (by kernel_rfl) (by kernel_rfl) (by kernel_rfl) (by kernel_rfl) hH (fun w ⟨R, hS⟩ => (by first | exact (.ld (.of rfl) hS (k := 0) rfl Tryz.isAgg49 rfl) | exact (.ld (.of rfl) hS (k := 1) rfl Tryz.isAgg49 rfl))) rfl ?_
  refine WD.takeP (i := 4) rfl (by kernel_rfl) (by kernel_rfl) (by kernel_rfl) (fun w => (by first | exact .fieldAddr 0 (.of rfl) Tryz.underlying95 rfl rfl Tryz.sizeOf9 rfl | exact .fieldAddrI 0 (.of rfl) Tryz.underlying95 rfl rfl Tryz.sizeOf9 rfl)) rfl ?_
  refine WD.take (i := 5) rfl (by kernel_rfl) (by kernel_rfl) (by kernel_rfl) (by kernel_rfl) hH (fun w ⟨R, hS⟩ => (by first | exact (.ld (.of rfl) hS (k := 0) rfl Tryz.isAgg9 rfl) | exact (.ld (.of rfl) hS (k := 1) rfl Tryz.isAgg9 rfl))) rfl ?_
  refine WD.branch [6, 11] (by kernel_rfl) rfl (WO.cons rfl ?_ (WO.cons rfl ?_ (WO.nil)))
  ·
   refine .call Tryz.func40 rfl (evs_cons (.of rfl) (evs_cons (.of rfl) evs_nil)) rfl (Find_any q.service hqs p B _ I hI _ hS) ?_
   clear hS
   rintro _ w ⟨ra, rc, rfl, hS⟩
   refine .nil ?_
   clear hH
   have hH : ∃ R, Sat B w I (blk b3 [S q.service, S q.cookie, .bool q.has, .bool q.renew, .bool q.gateway, .bool q.warn] 95 :: blk p.wb (wdC p ω) 52 :: R) := ⟨_, ((hS.pick 0 rfl).pick 6 rfl)⟩
   refine And.intro (by intro _ _; exact hH) ?_
   refine .takeP (i := 7) rfl (by kernel_rfl) (by kernel_rfl) (by kernel_rfl) (fun w => (.move (.of rfl))) rfl (.takeP (i := 8) rfl (by kernel_rfl) (by kernel_rfl) (by kernel_rfl) (fun w => (.extract (.of rfl) rfl)) rfl (.takeP (i := 9) rfl (by kernel_rfl) (by kernel_rfl) (by kernel_rfl) (fun w => (.extract (.of rfl) rfl)) rfl (.takeP (i := 10) rfl (by kernel_rfl) (by kernel_rfl) (by kernel_rfl) (fun w => (.extract (.of rfl) rfl)) rfl ?_)))
   refine WD.branch [11] (by kernel_rfl) rfl (WO.cons rfl ?_ (WO.nil))
   refine .allocA (cs := [_, _, _, _, _, _, _, _]) hS Tryz.zeroValue101 rfl ?_
   clear hS; intro b7 w hS
   refine .nil ?_
   clear hH
   have hH : ∃ R, Sat B w I (blk b3 [S q.service, S q.cookie, .bool q.has, .bool q.renew, .bool q.gateway, .bool q.warn] 95 :: blk p.wb (wdC p ω) 52 :: R) := ⟨_, ((hS.pick 1 rfl).pick 7 rfl)⟩
   refine And.intro (by intro _ _; exact hH) ?_
   refine WD.branch [12] (by kernel_rfl) rfl (WO.cons rfl ?_ (WO.nil))
   first | refine WL.stA hS (k := 0) rfl (.of rfl) (.of rfl) rfl Tryz.sizeOf101 rfl (by simp) ?_ | refine WL.stA hS (k := 1) rfl (.of rfl) (.of rfl) rfl Tryz.sizeOf101 rfl (by simp) ?_ | refine WL.stA hS (k := 2) rfl (.of rfl) (.of rfl) rfl Tryz.sizeOf101 rfl (by simp) ?_ | refine WL.stA hS (k := 3) rfl (.of rfl) (.of rfl) rfl Tryz.sizeOf101 rfl (by simp) ?_ | refine WL.stA hS (k := 4) rfl (.of rfl) (.of rfl) rfl Tryz.sizeOf101 rfl (by simp) ?_ | refine WL.stA hS (k := 5) rfl (.of rfl) (.of rfl) rfl Tryz.sizeOf101 rfl (by simp) ?_ | refine WL.stA hS (k := 6) rfl (.of rfl) (.of rfl) rfl Tryz.sizeOf101 rfl (by simp) ?_ | refine WL.stA hS (k := 7) rfl (.of rfl) (.of rfl) rfl Tryz.sizeOf101 rfl (by simp) ?_
   clear hS; intro w hS; try dsimp only [List.set] at hS
   try simp only [List.take_zero, List.nil_append, List.append_nil, List.drop_succ_cons, List.drop_zero, List.drop_nil, Nat.zero_add] at hS
   refine .nil ?_
   clear hH
   have hH : ∃ R, Sat B w I (blk b3 [S q.service, S q.cookie, .bool q.has, .bool q.renew, .bool q.gateway, .bool q.warn] 95 :: blk p.wb (wdC p ω) 52 :: R) := ⟨_, ((hS.pick 1 rfl).pick 7 rfl)⟩
   refine And.intro (by intro _ _; exact hH) ?_
   refine .takeP (i := 13) rfl (by kernel_rfl) (by kernel_rfl) (by kernel_rfl) (fun w => (.assign (.of rfl))) rfl (.takeP (i := 14) rfl (by kernel_rfl) (by kernel_rfl) (by kernel_rfl) (fun w => (.assign (.of rfl))) rfl (.done (by kernel_rfl) ?_))
   replace hS := Sat.box (T := wdT p _) (a, c, ma, mc) (((((hS.pick 5 rfl).pick 5 rfl).pick 5 rfl).pick 5 rfl).pick 5 rfl)
   try dsimp only [List.eraseIdx] at hS
   replace hS := (hS.drop (k := 2) rfl)
   try dsimp only [List.eraseIdx] at hS
   exact ⟨(b7, ra, rc), ⟨rfl, rfl, rfl, rfl, rfl, rfl, trivial⟩, ((hS.pick 2 rfl).pick 2 rfl)⟩
  ·
   refine .allocA (cs := [_, _, _, _, _, _, _, _]) hS Tryz.zeroValue101 rfl ?_
   clear hS; intro b7 w hS
   refine .nil ?_
   clear hH
   have hH : ∃ R, Sat B w I (blk b3 [S q.service, S q.cookie, .bool q.has, .bool q.renew, .bool q.gateway, .bool q.warn] 95 :: blk p.wb (wdC p ω) 52 :: R) := ⟨_, ((hS.pick 1 rfl).pick 7 rfl)⟩
   refine And.intro (by intro _ _; exact hH) ?_
   refine WD.branch [6] (by kernel_rfl) rfl (WO.cons rfl ?_ (WO.nil))
   refine .call Tryz.func40 rfl (evs_cons (.of rfl) (evs_cons (.of rfl) evs_nil)) rfl (Find_any q.service hqs p B _ I hI _ hS) ?_
   clear hS
   rintro _ w ⟨ra, rc, rfl, hS⟩
   refine .nil ?_
   clear hH
   have hH : ∃ R, Sat B w I (blk b3 [S q.service, S q.cookie, .bool q.has, .bool q.renew, .bool q.gateway, .bool q.warn] 95 :: blk p.wb (wdC p ω) 52 :: R) := ⟨_, ((hS.pick 1 rfl).pick 7 rfl)⟩
   refine And.intro (by intro _ _; exact hH) ?_
   refine .takeP (i := 7) rfl (by kernel_rfl) (by kernel_rfl) (by kernel_rfl) (fun w => (.move (.of rfl))) rfl (.takeP (i := 8) rfl (by kernel_rfl) (by kernel_rfl) (by kernel_rfl) (fun w => (.extract (.of rfl) rfl)) rfl (.takeP (i := 9) rfl (by kernel_rfl) (by kernel_rfl) (by kernel_rfl) (fun w => (.extract (.of rfl) rfl)) rfl (.takeP (i := 10) rfl (by kernel_rfl) (by kernel_rfl) (by kernel_rfl) (fun w => (.extract (.of rfl) rfl)) rfl ?_)))
   refine WD.branch [12] (by kernel_rfl) rfl (WO.cons rfl ?_ (WO.nil))
   first | refine WL.stA hS (k := 0) rfl (.of rfl) (.of rfl) rfl Tryz.sizeOf101 rfl (by simp) ?_ | refine WL.stA hS (k := 1) rfl (.of rfl) (.of rfl) rfl Tryz.sizeOf101 rfl (by simp) ?_ | refine WL.stA hS (k := 2) rfl (.of rfl) (.of rfl) rfl Tryz.sizeOf101 rfl (by simp) ?_ | refine WL.stA hS (k := 3) rfl (.of rfl) (.of rfl) rfl Tryz.sizeOf101 rfl (by simp) ?_ | refine WL.stA hS (k := 4) rfl (.of rfl) (.of rfl) rfl Tryz.sizeOf101 rfl (by simp) ?_ | refine WL.stA hS (k := 5) rfl (.of rfl) (.of rfl) rfl Tryz.sizeOf101 rfl (by simp) ?_ | refine WL.stA hS (k := 6) rfl (.of rfl) (.of rfl) rfl Tryz.sizeOf101 rfl (by simp) ?_ | refine WL.stA hS (k := 7) rfl (.of rfl) (.of rfl) rfl Tryz.sizeOf101 rfl (by simp) ?_
   clear hS; intro w hS; try dsimp only [List.set] at hS
   try simp only [List.take_zero, List.nil_append, List.append_nil, List.drop_succ_cons, List.drop_zero, List.drop_nil, Nat.zero_add] at hS
   refine .nil ?_
   clear hH
   have hH : ∃ R, Sat B w I (blk b3 [S q.service, S q.cookie, .bool q.has, .bool q.renew, .bool q.gateway, .bool q.warn] 95 :: blk p.wb (wdC p ω) 52 :: R) := ⟨_, ((hS.pick 1 rfl).pick 7 rfl)⟩
   refine And.intro (by intro _ _; exact hH) ?_
   refine .takeP (i := 13) rfl (by kernel_rfl) (by kernel_rfl) (by kernel_rfl) (fun w => (.assign (.of rfl))) rfl (.takeP (i := 14) rfl (by kernel_rfl) (by kernel_rfl) (by kernel_rfl) (fun w => (.assign (.of rfl))) rfl (.done (by kernel_rfl) ?_))
   replace hS := Sat.box (T := wdT p _) (a, c, ma, mc) (((((hS.pick 5 rfl).pick 5 rfl).pick 5 rfl).pick 5 rfl).pick 5 rfl)
   try dsimp only [List.eraseIdx] at hS
   replace hS := (hS.drop (k := 2) rfl)
   try dsimp only [List.eraseIdx] at hS
   exact ⟨(b7, ra, rc), ⟨rfl, rfl, rfl, rfl, rfl, rfl, trivial⟩, ((hS.pick 2 rfl).pick 2 rfl)⟩
 rintro ⟨b7, ra, rc⟩ w hS
 change WC _ _ _ _ [(0, ptr p.wb 0), (3, ptr b3 0), (6, .bool (aliveW p.ps ω q.cookie 1).2), (7, ptr b7 0), (8, S (findR p.lo q.service).2.1), (9, I64 (((findR p.lo q.service).2.2 : Nat) : Int))] w
 refine .seq (.block (.seq (.region ?_)))
 first | refine WL.val (.fieldAddr 2 (.of rfl) Tryz.underlying95 rfl rfl Tryz.sizeOf4 rfl) rfl ?_ | refine WL.val (.fieldAddrI 2 (.of rfl) Tryz.underlying95 rfl rfl Tryz.sizeOf4 rfl) rfl ?_
 first | refine WL.val (.ld (.of rfl) hS (k := 0) rfl Tryz.isAgg4 rfl) rfl ?_ | refine WL.val (.ld (.of rfl) hS (k := 1) rfl Tryz.isAgg4 rfl) rfl ?_ | refine WL.val (.ld (.of rfl) hS (k := 2) rfl Tryz.isAgg4 rfl) rfl ?_
 refine .run 1 rfl trivial (.gval rfl rfl (fun hg1 => (.move (.of rfl))) rfl (.gval rfl rfl (fun hg1 => (.neq (.gd hg1 rfl) (.of rfl))) rfl (.val (.pand (.of rfl) (.of rfl) (.of rfl)) rfl (.run 1 rfl trivial (.nil ?_)))))
 refine WC.cond rfl (fun hb28 => ?_) (fun hb28 => ?_)
 ·
  have hc28 := hb28; try simp only [Gk.cs0] at hc28
  refine .seq (.region (.run 1 rfl trivial (.nil (.ret (ret1 Tryz.results39 rfl ?_)))))
  have hE : chooseW p.lo p.ps ω q = 6 := by rw [chooseW, if_pos hb28]
  rw [hE]
  exact ⟨_, rfl, rfl, (hS.drop (k := 0) rfl).drop (k := 0) rfl⟩
 have hc28 := hb28; try simp only [Gk.cs0] at hc28
 refine .seq (.region ?_)
 first | refine WL.val (.fieldAddr 2 (.of rfl) Tryz.underlying95 rfl rfl Tryz.sizeOf4 rfl) rfl ?_ | refine WL.val (.fieldAddrI 2 (.of rfl) Tryz.underlying95 rfl rfl Tryz.sizeOf4 rfl) rfl ?_
 first | refine WL.val (.ld (.of rfl) hS (k := 0) rfl Tryz.isAgg4 rfl) rfl ?_ | refine WL.val (.ld (.of rfl) hS (k := 1) rfl Tryz.isAgg4 rfl) rfl ?_ | refine WL.val (.ld (.of rfl) hS (k := 2) rfl Tryz.isAgg4 rfl) rfl ?_
 refine .run 2 rfl trivial (.gval rfl rfl (fun hg1 => (.move (.of rfl))) rfl (.val (.pand (.of rfl) (.of rfl) (.of rfl)) rfl (.run 1 rfl trivial (.nil ?_))))
 refine WC.cond rfl (fun hb35 => ?_) (fun hb35 => ?_)
 ·
  have hc35 := hb35; try simp only [Gk.cs0] at hc35
  refine .seq (.region (.run 1 rfl trivial (.nil (.ret (ret1 Tryz.results39 rfl ?_)))))
  have hE : chooseW p.lo p.ps ω q = 5 := by rw [chooseW, if_neg (by rw [hb28]; decide), if_pos hb35]
  rw [hE]
  exact ⟨_, rfl, rfl, (hS.drop (k := 0) rfl).drop (k := 0) rfl⟩
 have hc35 := hb35; try simp only [Gk.cs0] at hc35
 refine .seq (.region ?_)
 first | refine WL.val (.fieldAddr 2 (.of rfl) Tryz.underlying95 rfl rfl Tryz.sizeOf4 rfl) rfl ?_ | refine WL.val (.fieldAddrI 2 (.of rfl) Tryz.underlying95 rfl rfl Tryz.sizeOf4 rfl) rfl ?_
 first | refine WL.val (.ld (.of rfl) hS (k := 0) rfl Tryz.isAgg4 rfl) rfl ?_ | refine WL.val (.ld (.of rfl) hS (k := 1) rfl Tryz.isAgg4 rfl) rfl ?_ | refine WL.val (.ld (.of rfl) hS (k := 2) rfl Tryz.isAgg4 rfl) rfl ?_
 refine .run 2 rfl trivial ?_
 refine WL.gval rfl rfl (fun hg1 => (by first | exact .fieldAddr 3 (.of rfl) Tryz.underlying95 rfl rfl Tryz.sizeOf4 rfl | exact .fieldAddrI 3 (.of rfl) Tryz.underlying95 rfl rfl Tryz.sizeOf4 rfl)) rfl ?_
 refine WL.gval rfl rfl (fun hg1 => (by first | exact (.ld (.gd hg1 rfl) hS (k := 0) rfl Tryz.isAgg4 rfl) | exact (.ld (.gd hg1 rfl) hS (k := 1) rfl Tryz.isAgg4 rfl) | exact (.ld (.gd hg1 rfl) hS (k := 2) rfl Tryz.isAgg4 rfl))) rfl ?_
 refine .val (.por (.of rfl) (.of rfl) (.of rfl)) rfl (.run 1 rfl trivial (.nil ?_))
 refine WC.cond rfl (fun hb42 => ?_) (fun hb42 => ?_)
 ·
  have hc42 := hb42; try simp only [Gk.cs0] at hc42
  refine .seq (.region (.run 1 rfl trivial (.nil (.ret (ret1 Tryz.results39 rfl ?_)))))
  have hE : chooseW p.lo p.ps ω q = 1 := by rw [chooseW, if_neg (by rw [hb28]; decide), if_neg (by rw [hb35]; decide), if_pos hb42]
  rw [hE]
  exact ⟨_, rfl, rfl, (hS.drop (k := 0) rfl).drop (k := 0) rfl⟩
 have hc42 := hb42; try simp only [Gk.cs0] at hc42
 refine .seq (.region (.run 2 rfl trivial ?_))
 refine WL.gval rfl rfl (fun hg1 => (by first | exact .fieldAddr 3 (.of rfl) Tryz.underlying101 rfl rfl Tryz.sizeOf4 rfl | exact .fieldAddrI 3 (.of rfl) Tryz.underlying101 rfl rfl Tryz.sizeOf4 rfl)) rfl ?_
 refine WL.gval rfl rfl (fun hg1 => (by first | exact (.ld (.gd hg1 rfl) hS (k := 0) rfl Tryz.isAgg4 rfl) | exact (.ld (.gd hg1 rfl) hS (k := 1) rfl Tryz.isAgg4 rfl) | exact (.ld (.gd hg1 rfl) hS (k := 2) rfl Tryz.isAgg4 rfl))) rfl ?_
 refine .val (.pand (.of rfl) (.of rfl) (.of rfl)) rfl (.run 1 rfl trivial ?_)
 refine WL.gval rfl rfl (fun hg1 => (by first | exact .fieldAddr 5 (.of rfl) Tryz.underlying95 rfl rfl Tryz.sizeOf4 rfl | exact .fieldAddrI 5 (.of rfl) Tryz.underlying95 rfl rfl Tryz.sizeOf4 rfl)) rfl ?_
 refine WL.gval rfl rfl (fun hg1 => (by first | exact (.ld (.gd hg1 rfl) hS (k := 0) rfl Tryz.isAgg4 rfl) | exact (.ld (.gd hg1 rfl) hS (k := 1) rfl Tryz.isAgg4 rfl) | exact (.ld (.gd hg1 rfl) hS (k := 2) rfl Tryz.isAgg4 rfl))) rfl ?_
 refine .val (.pand (.of rfl) (.of rfl) (.of rfl)) rfl (.run 1 rfl trivial (.nil ?_))
 refine WC.cond rfl (fun hb50 => ?_) (fun hb50 => ?_)
 ·
  have hc50 := hb50; try simp only [Gk.cs0] at hc50
  refine .seq (.region (.run 1 rfl trivial (.nil (.ret (ret1 Tryz.results39 rfl ?_)))))
  have hE : chooseW p.lo p.ps ω q = 4 := by rw [chooseW, if_neg (by rw [hb28]; decide), if_neg (by rw [hb35]; decide), if_neg (by rw [hb42]; decide), if_pos hb50]
  rw [hE]
  exact ⟨_, rfl, rfl, (hS.drop (k := 0) rfl).drop (k := 0) rfl⟩
 have hc50 := hb50; try simp only [Gk.cs0] at hc50
 refine .seq (.region (.run 2 rfl trivial ?_))
 refine WL.gval rfl rfl (fun hg1 => (by first | exact .fieldAddr 3 (.of rfl) Tryz.underlying101 rfl rfl Tryz.sizeOf4 rfl | exact .fieldAddrI 3 (.of rfl) Tryz.underlying101 rfl rfl Tryz.sizeOf4 rfl)) rfl ?_
 refine WL.gval rfl rfl (fun hg1 => (by first | exact (.ld (.gd hg1 rfl) hS (k := 0) rfl Tryz.isAgg4 rfl) | exact (.ld (.gd hg1 rfl) hS (k := 1) rfl Tryz.isAgg4 rfl) | exact (.ld (.gd hg1 rfl) hS (k := 2) rfl Tryz.isAgg4 rfl))) rfl ?_
 refine .val (.pand (.of rfl) (.of rfl) (.of rfl)) rfl (.run 1 rfl trivial (.nil ?_))
 refine WC.cond rfl (fun hb60 => ?_) (fun hb60 => ?_)
 ·
  have hc60 := hb60; try simp only [Gk.cs0] at hc60
  refine .seq (.region (.run 1 rfl trivial (.nil (.ret (ret1 Tryz.results39 rfl ?_)))))
  have hE : chooseW p.lo p.ps ω q = 2 := by rw [chooseW, if_neg (by rw [hb28]; decide), if_neg (by rw [hb35]; decide), if_neg (by rw [hb42]; decide), if_neg (by rw [hb50]; decide), if_pos hb60]
  rw [hE]
  exact ⟨_, rfl, rfl, (hS.drop (k := 0) rfl).drop (k := 0) rfl⟩
 have hc60 := hb60; try simp only [Gk.cs0] at hc60
 refine .seq (.region ?_)
 first | refine WL.val (.fieldAddr 4 (.of rfl) Tryz.underlying95 rfl rfl Tryz.sizeOf4 rfl) rfl ?_ | refine WL.val (.fieldAddrI 4 (.of rfl) Tryz.underlying95 rfl rfl Tryz.sizeOf4 rfl) rfl ?_
 first | refine WL.val (.ld (.of rfl) hS (k := 0) rfl Tryz.isAgg4 rfl) rfl ?_ | refine WL.val (.ld (.of rfl) hS (k := 1) rfl Tryz.isAgg4 rfl) rfl ?_ | refine WL.val (.ld (.of rfl) hS (k := 2) rfl Tryz.isAgg4 rfl) rfl ?_
 refine .run 1 rfl trivial (.nil ?_)
 refine WC.cond rfl (fun hb66 => ?_) (fun hb66 => ?_)
 ·
  have hc66 := hb66; try simp only [Gk.cs0] at hc66
  refine .seq (.region (.run 1 rfl trivial (.nil (.ret (ret1 Tryz.results39 rfl ?_)))))
  have hE : chooseW p.lo p.ps ω q = 3 := by rw [chooseW, if_neg (by rw [hb28]; decide), if_neg (by rw [hb35]; decide), if_neg (by rw [hb42]; decide), if_neg (by rw [hb50]; decide), if_neg (by rw [hb60]; decide), if_pos hb66]
  rw [hE]
  exact ⟨_, rfl, rfl, (hS.drop (k := 0) rfl).drop (k := 0) rfl⟩
 have hc66 := hb66; try simp only [Gk.cs0] at hc66
 refine .skip (.seq (.region (.run 1 rfl trivial (.nil (.ret (ret1 Tryz.results39 rfl ?_))))))
 have hE : chooseW p.lo p.ps ω q = 1 := by rw [chooseW, if_neg (by rw [hb28]; decide), if_neg (by rw [hb35]; decide), if_neg (by rw [hb42]; decide), if_neg (by rw [hb50]; decide), if_neg (by rw [hb60]; decide), if_neg (by rw [hb66]; decide)]
 rw [hE]
 exact ⟨_, rfl, rfl, (hS.drop (k := 0) rfl).drop (k := 0) rfl⟩
def grantR (lo : List Sv) (ps : Nat → Int) (ω : Wd) (tgt service : List UInt8) (fresh : Bool) : Rec := ⟨2, [], tgt, (aliveW ps ω tgt 1).1.user, (findR lo service).2.1, [], 0, 0, 0, fresh⟩
def putW (ω : Wd) (r : Rec) : Wd := { ω with l := put ω.l r }
theorem putW_ok {ω : Wd} (h : WdOk ω) (r : Rec) : WdOk (putW ω r) := ⟨by show (put ω.l r).length ≤ 64; rw [put_length]; exact h.len, h.wf.put, h.D, h.now, h.room⟩
def grantW (lo : List Sv) (ps : Nat → Int) (ω : Wd) (tgt service : List UInt8) (fresh : Bool) : ((List UInt8 × List UInt8) × Nat) × Wd :=
 if (aliveW ps ω tgt 1).2 = false then ((([], []), 30), ω)
 else if (findR lo service).2.2 ≠ 0 then ((([], []), 31), ω)
 else if (!fresh && !(findR lo service).1.login) = true then ((([], []), 36), ω)
 else if (mkW ω (grantR lo ps ω tgt service fresh)).1.2 ≠ 0 then ((([], []), (mkW ω (grantR lo ps ω tgt service fresh)).1.2), (mkW ω (grantR lo ps ω tgt service fresh)).2)
 else ((((mkW ω (grantR lo ps ω tgt service fresh)).1.1, (findR lo service).2.1), 0), putW (mkW ω (grantR lo ps ω tgt service fresh)).2 (touchR (aliveW ps ω tgt 1).1 (mkW ω (grantR lo ps ω tgt service fresh)).2.now))
theorem grantW_ok {lo : List Sv} {ps : Nat → Int} {ω : Wd} (h : WdOk ω) (tgt service : List UInt8) (fresh : Bool) : WdOk (grantW lo ps ω tgt service fresh).2 := by
 unfold grantW
 split
 ·exact h
 ·split
  ·exact h
  ·split
   ·exact h
   ·split
    ·exact mkW_ok h _
    ·exact putW_ok (mkW_ok h _) _
theorem aliveW_short {ps : Nat → Int} {ω : Wd} (h : WdOk ω) (name : List UInt8) (kind : Int) : (aliveW ps ω name kind).1.name.length ≤ 23 ∧ (aliveW ps ω name kind).1.parent.length ≤ 23 ∧ 0 ≤ (aliveW ps ω name kind).1.uses ∧ (aliveW ps ω name kind).1.uses ≤ 255 := by
 unfold aliveW
 split
 ·decide
 ·exact getD_short h.wf name
theorem Grant_any (tgt service : List UInt8) (fresh : Bool) (htg : tgt.length ≤ 1000000) (hqs : service.length ≤ 1000000) (p : Wp) (ω : Wd) (hω : WdOk ω) (B w : World) (I : Im) (hI : WpOk I p) (As : List Assn) (hS : Sat B w I (wdA p ω :: As)) :
  Calls Tryz.prog 45 [ptr p.wb 0, S tgt, S service, .bool fresh].toArray w (Ret fun v w' => v = .tuple #[S (grantW p.lo p.ps ω tgt service fresh).1.1.1, S (grantW p.lo p.ps ω tgt service fresh).1.1.2, I64 ((grantW p.lo p.ps ω tgt service fresh).1.2 : Nat)] ∧ Sat B w' I (wdA p (grantW p.lo p.ps ω tgt service fresh).2 :: As)) := by
 refine calls Tryz.func45 rfl Tryz.ntmps45 rfl (.seq (.region (.run 3 rfl trivial (.nil (.seq (.region (.run 2 rfl trivial (.call Tryz.func21 rfl (evs_cons (.of rfl) (evs_cons (.of rfl) (evs_cons (.of rfl) evs_nil))) rfl (Alive_any tgt 1 p ω hω B _ I _ hS) ?_))))))))
 clear hS
 rintro _ w ⟨rfl, hS⟩
 try dsimp only [List.eraseIdx] at hS
 refine .run 3 rfl trivial (.allocA (cs := [_, _, _, _, _, _, _, _, _, _]) hS Tryz.zeroValue45 rfl ?_)
 clear hS; intro b11 w hS
 first | refine WL.stA hS (k := 0) rfl (.of rfl) (.of rfl) rfl Tryz.sizeOf45 rfl (by simp) ?_ | refine WL.stA hS (k := 1) rfl (.of rfl) (.of rfl) rfl Tryz.sizeOf45 rfl (by simp) ?_
 clear hS; intro w hS; try dsimp only [List.set] at hS
 try simp only [List.take_zero, List.nil_append, List.append_nil, List.drop_succ_cons, List.drop_zero, List.drop_nil, Nat.zero_add] at hS
 refine .run 1 rfl trivial (.nil (.seq (.seq (.region (.run 2 rfl trivial (.nil ?_))))))
 refine WC.cond rfl (fun hb24 => ?_) (fun hb24 => ?_)
 ·
  have hc24 := hb24; try simp only [Gk.cs0] at hc24
  refine .seq (.region (.run 3 rfl trivial (.nil (.ret (ret3 Tryz.results45 rfl rfl rfl ?_)))))
  have hE : grantW p.lo p.ps ω tgt service fresh = ((([], []), 30), ω) := by rw [grantW, if_pos (by simpa using hb24)]
  rw [hE]
  exact ⟨_, rfl, rfl, (hS.drop (k := 0) rfl)⟩
 have hc24 := hb24; try simp only [Gk.cs0] at hc24
 refine .skip (.seq ?_)
 replace hS := (hS.pick 1 rfl)
 try dsimp only [List.eraseIdx] at hS
 obtain ⟨⟨a, c, ma, mc⟩, hS⟩ := Sat.unbox hS
 replace hS : Sat B _ _ (blk p.wb (wdC p ω) 52 :: blk p.tb [I64 ω.room, .slice a ω.l.length c] 127 :: Vec 45 10 (.slice a ω.l.length c) ω.l.length (rowsR ω.l) :: blk p.mb [.slice ma ω.D.length mc] 168 :: VecO 118 (.slice ma ω.D.length mc) (ω.D.map fun d => U64 (d : Nat)) :: _) := hS
 refine .region (.run 2 rfl trivial ?_)
 first | refine WL.val (.fieldAddr 2 (.of rfl) Tryz.underlying52 rfl rfl Tryz.sizeOf49 rfl) rfl ?_ | refine WL.val (.fieldAddrI 2 (.of rfl) Tryz.underlying52 rfl rfl Tryz.sizeOf49 rfl) rfl ?_
 first | refine WL.val (.ld (.of rfl) hS (k := 0) rfl Tryz.isAgg49 rfl) rfl ?_ | refine WL.val (.ld (.of rfl) hS (k := 1) rfl Tryz.isAgg49 rfl) rfl ?_ | refine WL.val (.ld (.of rfl) hS (k := 2) rfl Tryz.isAgg49 rfl) rfl ?_ | refine WL.val (.ld (.of rfl) hS (k := 3) rfl Tryz.isAgg49 rfl) rfl ?_ | refine WL.val (.ld (.of rfl) hS (k := 4) rfl Tryz.isAgg49 rfl) rfl ?_ | refine WL.val (.ld (.of rfl) hS (k := 5) rfl Tryz.isAgg49 rfl) rfl ?_
 refine .run 1 rfl trivial (.call Tryz.func40 rfl (evs_cons (.of rfl) (evs_cons (.of rfl) evs_nil)) rfl (Find_any service hqs p B _ I hI _ hS) ?_)
 clear hS
 rintro _ w ⟨ra, rc, rfl, hS⟩
 refine .run 4 rfl trivial (.allocA (cs := [_, _, _, _, _, _, _, _]) hS Tryz.zeroValue101 rfl ?_)
 clear hS; intro b13 w hS
 first | refine WL.stA hS (k := 0) rfl (.of rfl) (.of rfl) rfl Tryz.sizeOf101 rfl (by simp) ?_ | refine WL.stA hS (k := 1) rfl (.of rfl) (.of rfl) rfl Tryz.sizeOf101 rfl (by simp) ?_ | refine WL.stA hS (k := 2) rfl (.of rfl) (.of rfl) rfl Tryz.sizeOf101 rfl (by simp) ?_ | refine WL.stA hS (k := 3) rfl (.of rfl) (.of rfl) rfl Tryz.sizeOf101 rfl (by simp) ?_ | refine WL.stA hS (k := 4) rfl (.of rfl) (.of rfl) rfl Tryz.sizeOf101 rfl (by simp) ?_ | refine WL.stA hS (k := 5) rfl (.of rfl) (.of rfl) rfl Tryz.sizeOf101 rfl (by simp) ?_ | refine WL.stA hS (k := 6) rfl (.of rfl) (.of rfl) rfl Tryz.sizeOf101 rfl (by simp) ?_
 clear hS; intro w hS; try dsimp only [List.set] at hS
 try simp only [List.take_zero, List.nil_append, List.append_nil, List.drop_succ_cons, List.drop_zero, List.drop_nil, Nat.zero_add] at hS
 refine .run 2 rfl trivial (.nil (.seq (.block (.seq (.region (.run 3 rfl trivial (.nil ?_)))))))
 refine WC.cond rfl (fun hb35 => ?_) (fun hb35 => ?_)
 ·
  have hc35 := hb35; try simp only [Gk.cs0] at hc35
  refine .seq (.region (.run 3 rfl trivial (.nil (.ret (ret3 Tryz.results45 rfl rfl rfl ?_)))))
  replace hS := Sat.box (T := wdT p _) (a, c, ma, mc) (((((hS.pick 5 rfl).pick 5 rfl).pick 5 rfl).pick 5 rfl).pick 5 rfl)
  try dsimp only [List.eraseIdx] at hS
  have hE : grantW p.lo p.ps ω tgt service fresh = ((([], []), 31), ω) := by rw [grantW, if_neg (by rw [show (aliveW p.ps ω tgt 1).2 = true from by simpa using hb24]; decide), if_pos (by simpa using hb35)]
  rw [hE]
  exact ⟨_, rfl, rfl, ((hS.drop (k := 1) rfl).drop (k := 1) rfl)⟩
 have hc35 := hb35; try simp only [Gk.cs0] at hc35
 refine .seq (.region (.run 3 rfl trivial ?_))
 refine WL.gval rfl rfl (fun hg1 => (by first | exact .fieldAddr 3 (.of rfl) Tryz.underlying101 rfl rfl Tryz.sizeOf4 rfl | exact .fieldAddrI 3 (.of rfl) Tryz.underlying101 rfl rfl Tryz.sizeOf4 rfl)) rfl ?_
 refine WL.gval rfl rfl (fun hg1 => (by first | exact (.ld (.gd hg1 rfl) hS (k := 0) rfl Tryz.isAgg4 rfl) | exact (.ld (.gd hg1 rfl) hS (k := 1) rfl Tryz.isAgg4 rfl) | exact (.ld (.gd hg1 rfl) hS (k := 2) rfl Tryz.isAgg4 rfl) | exact (.ld (.gd hg1 rfl) hS (k := 3) rfl Tryz.isAgg4 rfl) | exact (.ld (.gd hg1 rfl) hS (k := 4) rfl Tryz.isAgg4 rfl) | exact (.ld (.gd hg1 rfl) hS (k := 5) rfl Tryz.isAgg4 rfl) | exact (.ld (.gd hg1 rfl) hS (k := 6) rfl Tryz.isAgg4 rfl))) rfl ?_
 refine .gval rfl rfl (fun hg1 => (.not (.gd hg1 rfl))) rfl (.val (.pand (.of rfl) (.of rfl) (.of rfl)) rfl (.run 1 rfl trivial (.nil ?_)))
 refine WC.cond rfl (fun hb38 => ?_) (fun hb38 => ?_)
 ·
  have hc38 := hb38; try simp only [Gk.cs0] at hc38
  refine .seq (.region (.run 3 rfl trivial (.nil (.ret (ret3 Tryz.results45 rfl rfl rfl ?_)))))
  replace hS := Sat.box (T := wdT p _) (a, c, ma, mc) (((((hS.pick 5 rfl).pick 5 rfl).pick 5 rfl).pick 5 rfl).pick 5 rfl)
  try dsimp only [List.eraseIdx] at hS
  have hE : grantW p.lo p.ps ω tgt service fresh = ((([], []), 36), ω) := by rw [grantW, if_neg (by rw [show (aliveW p.ps ω tgt 1).2 = true from by simpa using hb24]; decide), if_neg (by simpa using hb35), if_pos hb38]
  rw [hE]
  exact ⟨_, rfl, rfl, ((hS.drop (k := 1) rfl).drop (k := 1) rfl)⟩
 have hc38 := hb38; try simp only [Gk.cs0] at hc38
 refine .skip (.seq ?_)
 replace hS := Sat.box (T := wdT p _) (a, c, ma, mc) (((((hS.pick 5 rfl).pick 5 rfl).pick 5 rfl).pick 5 rfl).pick 5 rfl)
 try dsimp only [List.eraseIdx] at hS
 refine .region (.run 2 rfl trivial ?_)
 first | refine WL.val (.fieldAddr 3 (.of rfl) Tryz.underlying45 rfl rfl Tryz.sizeOf9 rfl) rfl ?_ | refine WL.val (.fieldAddrI 3 (.of rfl) Tryz.underlying45 rfl rfl Tryz.sizeOf9 rfl) rfl ?_
 first | refine WL.val (.ld (.of rfl) hS (k := 0) rfl Tryz.isAgg9 rfl) rfl ?_ | refine WL.val (.ld (.of rfl) hS (k := 1) rfl Tryz.isAgg9 rfl) rfl ?_ | refine WL.val (.ld (.of rfl) hS (k := 2) rfl Tryz.isAgg9 rfl) rfl ?_
 refine .run 2 rfl trivial (.val (.build (cs := [_, _, _, _, _, _, _, _, _, _]) (parts_cons (.of rfl) (parts_cons (.of rfl) (parts_cons (.of rfl) (parts_cons (.of rfl) (parts_cons (.of rfl) parts_nil))))) bld45_43 rfl) rfl (.call Tryz.func49 rfl (evs_cons (.of rfl) (evs_cons (.of rfl) evs_nil)) rfl (Make_any (grantR p.lo p.ps ω tgt service fresh) htg p ω hω B _ I hI _ hS) ?_))
 clear hS
 rintro _ w ⟨rfl, hS⟩
 try dsimp only [List.eraseIdx] at hS
 refine .run 5 rfl trivial (.nil (.seq (.seq (.region (.run 2 rfl trivial (.nil ?_))))))
 refine WC.cond rfl (fun hb58 => ?_) (fun hb58 => ?_)
 ·
  have hc58 := hb58; try simp only [Gk.cs0] at hc58
  refine .seq (.region (.run 4 rfl trivial (.nil (.ret (ret3 Tryz.results45 rfl rfl rfl ?_)))))
  have hE : grantW p.lo p.ps ω tgt service fresh = ((([], []), (mkW ω (grantR p.lo p.ps ω tgt service fresh)).1.2), (mkW ω (grantR p.lo p.ps ω tgt service fresh)).2) := by rw [grantW, if_neg (by rw [show (aliveW p.ps ω tgt 1).2 = true from by simpa using hb24]; decide), if_neg (by simpa using hb35), if_neg (by rw [hb38]; decide), if_pos (by simpa using hb58)]
  rw [hE]
  exact ⟨_, rfl, rfl, ((hS.drop (k := 1) rfl).drop (k := 1) rfl)⟩
 have hc58 := hb58; try simp only [Gk.cs0] at hc58
 refine .skip (.seq ?_)
 obtain ⟨⟨a2, c2, ma2, mc2⟩, hS⟩ := Sat.unbox hS
 replace hS : Sat B _ _ (blk p.wb (wdC p (mkW ω (grantR p.lo p.ps ω tgt service fresh)).2) 52 :: blk p.tb [I64 (mkW ω (grantR p.lo p.ps ω tgt service fresh)).2.room, .slice a2 (mkW ω (grantR p.lo p.ps ω tgt service fresh)).2.l.length c2] 127 :: Vec 45 10 (.slice a2 (mkW ω (grantR p.lo p.ps ω tgt service fresh)).2.l.length c2) (mkW ω (grantR p.lo p.ps ω tgt service fresh)).2.l.length (rowsR (mkW ω (grantR p.lo p.ps ω tgt service fresh)).2.l) :: blk p.mb [.slice ma2 (mkW ω (grantR p.lo p.ps ω tgt service fresh)).2.D.length mc2] 168 :: VecO 118 (.slice ma2 (mkW ω (grantR p.lo p.ps ω tgt service fresh)).2.D.length mc2) ((mkW ω (grantR p.lo p.ps ω tgt service fresh)).2.D.map fun d => U64 (d : Nat)) :: _) := hS
 have hω2 := mkW_ok hω (grantR p.lo p.ps ω tgt service fresh)
 have hlen2 := hω2.len
 have hsh := aliveW_short (ps := p.ps) hω tgt 1
 refine .drawn (fun w => ∃ R, Sat B w I (blk b11 (recCells (aliveW p.ps ω tgt 1).1) 45 :: blk p.wb (wdC p (mkW ω (grantR p.lo p.ps ω tgt service fresh)).2) 52 :: R)) (fun j => !([].contains j)) (by kernel_rfl) ?_
 replace hS := hS.drew; generalize w.drew = w at hS ⊢
 have hH : ∃ R, Sat B w I (blk b11 (recCells (aliveW p.ps ω tgt 1).1) 45 :: blk p.wb (wdC p (mkW ω (grantR p.lo p.ps ω tgt service fresh)).2) 52 :: R) := ⟨_, ((hS.pick 0 rfl).pick 6 rfl)⟩
 refine .takeP (i := 0) rfl (by kernel_rfl) (by kernel_rfl) (by kernel_rfl) (fun w => (.move (.of rfl))) rfl (.takeP (i := 1) rfl (by kernel_rfl) (by kernel_rfl) (by kernel_rfl) (fun w => (.nilCheck (.of rfl))) rfl ?_)
 refine WD.takeP (i := 2) rfl (by kernel_rfl) (by kernel_rfl) (by kernel_rfl) (fun w => (by first | exact .fieldAddr 0 (.of rfl) Tryz.underlying52 rfl rfl Tryz.sizeOf47 rfl | exact .fieldAddrI 0 (.of rfl) Tryz.underlying52 rfl rfl Tryz.sizeOf47 rfl)) rfl ?_
 refine WD.take (i := 3) rfl (by kernel_rfl) (by kernel_rfl) (by kernel_rfl) (by kernel_rfl) hH (fun w ⟨R, hS⟩ => (by first | exact (.ld (.of rfl) hS (k := 0) rfl Tryz.isAgg47 rfl) | exact (.ld (.of rfl) hS (k := 1) rfl Tryz.isAgg47 rfl))) rfl ?_
 refine WD.take (i := 4) rfl (by kernel_rfl) (by kernel_rfl) (by kernel_rfl) (by kernel_rfl) hH (fun w ⟨R, hS⟩ => (by first | exact (.ldsW (cs := [_, _, _, _, _, _, _, _, _, _]) (.of rfl) hS (k := 0) rfl Tryz.isAgg45 Tryz.sizeOf45 rfl) | exact (.lds (vs := [_, _, _, _, _, _, _, _, _, _]) (.of rfl) hS (k := 0) rfl Tryz.isAgg45 Tryz.sizeOf45 rfl (fun _ _ h => h)) | exact (.ldsW (cs := [_, _, _, _, _, _, _, _, _, _]) (.of rfl) hS (k := 1) rfl Tryz.isAgg45 Tryz.sizeOf45 rfl) | exact (.lds (vs := [_, _, _, _, _, _, _, _, _, _]) (.of rfl) hS (k := 1) rfl Tryz.isAgg45 Tryz.sizeOf45 rfl (fun _ _ h => h)))) rfl ?_
 refine .takeP (i := 5) rfl (by kernel_rfl) (by kernel_rfl) (by kernel_rfl) (fun w => (.move (.of rfl))) rfl (.takeP (i := 6) rfl (by kernel_rfl) (by kernel_rfl) (by kernel_rfl) (fun w => (.nilCheck (.of rfl))) rfl ?_)
 refine WD.takeP (i := 7) rfl (by kernel_rfl) (by kernel_rfl) (by kernel_rfl) (fun w => (by first | exact .fieldAddr 25 (.of rfl) Tryz.underlying52 rfl rfl Tryz.sizeOf3 rfl | exact .fieldAddrI 25 (.of rfl) Tryz.underlying52 rfl rfl Tryz.sizeOf3 rfl)) rfl ?_
 refine WD.take (i := 8) rfl (by kernel_rfl) (by kernel_rfl) (by kernel_rfl) (by kernel_rfl) hH (fun w ⟨R, hS⟩ => (by first | exact (.ld (.of rfl) hS (k := 0) rfl Tryz.isAgg3 rfl) | exact (.ld (.of rfl) hS (k := 1) rfl Tryz.isAgg3 rfl))) rfl ?_
 refine WD.branch [9] (by kernel_rfl) rfl (WO.cons rfl ?_ (WO.nil))
 refine .call Tryz.func96 rfl (evs_cons (.of rfl) (evs_cons (.of rfl) evs_nil)) rfl (Touch_any (aliveW p.ps ω tgt 1).1 (mkW ω (grantR p.lo p.ps ω tgt service fresh)).2.now hsh.2.2.1 hsh.2.2.2 B _ I _ hS) ?_
 clear hS
 rintro _ w ⟨rfl, hS⟩
 refine .nil ?_
 clear hH
 have hH : ∃ R, Sat B w I (blk b11 (recCells (aliveW p.ps ω tgt 1).1) 45 :: blk p.wb (wdC p (mkW ω (grantR p.lo p.ps ω tgt service fresh)).2) 52 :: R) := ⟨_, ((hS.pick 0 rfl).pick 6 rfl)⟩
 refine And.intro (by intro _ _; exact hH) ?_
 refine WD.branch [10] (by kernel_rfl) rfl (WO.cons rfl ?_ (WO.nil))
 refine .call Tryz.func95 rfl (evs_cons (.of rfl) (evs_cons (.of rfl) evs_nil)) rfl (Put_any p.tb (mkW ω (grantR p.lo p.ps ω tgt service fresh)).2.room a2 c2 (mkW ω (grantR p.lo p.ps ω tgt service fresh)).2.l (by omega) (touchR (aliveW p.ps ω tgt 1).1 (mkW ω (grantR p.lo p.ps ω tgt service fresh)).2.now) (Nat.le_trans hsh.1 (by decide)) (Nat.le_trans hsh.2.1 (by decide)) B _ I hI.known hI.pre _ ((hS.pick 2 rfl).pick 2 rfl)) ?_
 clear hS
 rintro _ w ⟨rfl, hS⟩
 try dsimp only [List.eraseIdx] at hS
 refine .nil ?_
 clear hH
 have hH : ∃ R, Sat B w I (blk b11 (recCells (aliveW p.ps ω tgt 1).1) 45 :: blk p.wb (wdC p (mkW ω (grantR p.lo p.ps ω tgt service fresh)).2) 52 :: R) := ⟨_, ((hS.pick 2 rfl).pick 6 rfl)⟩
 refine And.intro (by intro _ _; exact hH) ?_
 refine .done (by kernel_rfl) (.seq (.region (.run 5 rfl trivial (.nil (.ret (ret3 Tryz.results45 rfl rfl rfl ?_))))))
 replace hS := Sat.box (T := wdT p (putW (mkW ω (grantR p.lo p.ps ω tgt service fresh)).2 (touchR (aliveW p.ps ω tgt 1).1 (mkW ω (grantR p.lo p.ps ω tgt service fresh)).2.now))) (a2, c2, ma2, mc2) (((((hS.pick 4 rfl).pick 4 rfl).pick 3 rfl).pick 3 rfl).pick 4 rfl)
 try dsimp only [List.eraseIdx] at hS
 have hE : grantW p.lo p.ps ω tgt service fresh = ((((mkW ω (grantR p.lo p.ps ω tgt service fresh)).1.1, (findR p.lo service).2.1), 0), putW (mkW ω (grantR p.lo p.ps ω tgt service fresh)).2 (touchR (aliveW p.ps ω tgt 1).1 (mkW ω (grantR p.lo p.ps ω tgt service fresh)).2.now)) := by rw [grantW, if_neg (by rw [show (aliveW p.ps ω tgt 1).2 = true from by simpa using hb24]; decide), if_neg (by simpa using hb35), if_neg (by rw [hb38]; decide), if_neg (by simpa using hb58)]
 rw [hE]
 exact ⟨_, rfl, rfl, ((hS.drop (k := 1) rfl).drop (k := 1) rfl)⟩
end Go.Proofs.YtadhiihnnkcagaaGreatDoor
namespace Go.Proofs.YtadhiihnnkcagaaGreatDoor
open Gk Ul Pc Tk Tr
set_option linter.unusedVariables false
set_option linter.unusedSimpArgs false
theorem bld52_41 : Bld Tryz.prog 52 [(0, 1), (1, 1), (2, 1), (3, 1), (4, 21), (25, 1)] [.pointer none, .pointer none, .pointer none, .pointer none, .int .i64 0, .int .i64 0, .int .i64 0, .int .i64 0, .int .i64 0, .int .i64 0, .int .i64 0, .int .i64 0, .int .i64 0, .int .i64 0, .int .i64 0, .int .i64 0, .int .i64 0, .int .i64 0, .int .i64 0, .int .i64 0, .int .i64 0, .int .i64 0, .int .i64 0, .int .i64 0, .int .i64 0, .int .i64 0] := bld_of Tryz.underlying52 Tryz.zeroValue52 (fun w => by simp [go_sem])
structure Cf where
 svs : List Sv
 us : List Us
 ps : Nat → Int
 room : Int
 base : Nat
 factor : Nat
 most : Nat
 tries : Int
def cfCells (c : Cf) (a : Option Addr) (cap : Nat) (ua : Option Addr) (ucap : Nat) : List Value := .slice a c.svs.length cap :: .slice ua c.us.length ucap :: ((psL c.ps).map I64 ++ [I64 c.room, F64 c.base, F64 c.factor, F64 c.most, I64 c.tries])
structure Cf.fits (c : Cf) : Prop where
 svs : c.svs.length ≤ 100000
 ords : ∀ v ∈ ords c.svs, v < 18446744073709551616
 sfit : ∀ s ∈ c.svs, s.urls.length ≤ 9223372036854775807 ∧ s.calls.length ≤ 9223372036854775807 ∧ s.rel.length ≤ 1000000
 us : c.us.length ≤ 9223372036854775807
 ufit : ∀ u ∈ c.us, u.fits
def newE (c : Cf) : Nat := if (wrong c.svs).1 ≠ 0 then (wrong c.svs).1 else if (newU c.us 0 []).1 ≠ 0 then (newU c.us 0 []).1 else if rightP c.ps = false then 1 else 0
theorem newU_ok : ∀ (l : List Us) (i : Nat) (acc : List Us), (newU l i acc).1 = 0 → ∀ u ∈ l, userR u = true
 | [], _, _, _, u, h => by simp at h
 | t :: l, i, acc, h, u, hu => by
  rw [newU] at h
  split at h
  ·cases h
  ·split at h
   ·cases h
   ·rename_i h1
    split at h
    ·cases h
    ·rcases List.mem_cons.1 hu with e | hu
     ·subst e; simpa using h1
     ·exact newU_ok l (i + 1) _ h u hu
theorem mem_pickS {l : List Sv} {D : List Int} (hO : Srt.Ord (kx (ords l)) l.length D) : ∀ s ∈ pickS l D, s ∈ l := by
 intro s hs
 unfold pickS at hs
 obtain ⟨d, hd, rfl⟩ := List.mem_map.1 hs
 obtain ⟨h1, h2⟩ := Srt.upto_mem.1 (hO.2.mem_iff.1 hd)
 rw [List.getD_eq_getElem?_getD, List.getElem?_eq_getElem (by omega)]
 exact List.getElem_mem _
theorem mid_get {A vs C : List Value} {j : Nat} {v : Value} (h : vs[j]? = some v) : (A ++ (vs ++ C))[A.length + j]? = some v := by
 rw [List.getElem?_append_right (by omega), Nat.add_sub_cancel_left, List.getElem?_append_left (List.getElem?_eq_some_iff.1 h).1]
 exact h
def w0 (c : Cf) : Wd := ⟨roomI c.room, [], [], 0⟩
theorem w0_ok (c : Cf) : WdOk (w0 c) := ⟨by simp [w0], Wf.nil, fun d h => by simp [w0] at h, by simp [w0], by unfold w0 roomI; (try dsimp only); omega⟩
set_option maxRecDepth 20000 in
theorem grantNew_any (c : Cf) (hc : c.fits) (a : Option Addr) (cap : Nat) (ua : Option Addr) (ucap : Nat) (B w : World) (I : Im) (hK : Known I) (hP : PreAt I) (hl : SvsAt I a c.svs) (hU : UsrsAt I ua c.us) (As : List Assn) (hS : Sat B w I As) :
  Calls Tryz.prog 41 [.agg (cfCells c a cap ua ucap).toArray].toArray w (Ret fun v w' => ∃ J, Le I J ∧ ((newE c ≠ 0 ∧ v = .tuple #[.pointer none, I64 (newE c : Nat)] ∧ Sat B w' J As) ∨ (newE c = 0 ∧ ∃ p D, Srt.Ord (kx (ords c.svs)) c.svs.length D ∧ p.lo = pickS c.svs D ∧ p.us = c.us ∧ p.ps = c.ps ∧ v = .tuple #[ptr p.wb 0, I64 0] ∧ WpOk J p ∧ Sat B w' J (wdA p (w0 c) :: As)))) := by
 refine calls Tryz.func41 rfl Tryz.ntmps41 rfl (.seq (.region (.boxA (cs := [_, _, _, _, _, _, _, _, _, _, _, _, _, _, _, _, _, _, _, _, _, _, _, _, _, _, _, _]) hS (.of rfl) rfl ?_)))
 clear hS; intro b1 w hS
 refine .run 2 rfl trivial (.nil (.seq (.region ?_)))
 first | refine WL.val (.fieldAddr 0 (.of rfl) Tryz.underlying34 rfl rfl Tryz.sizeOf27 rfl) rfl ?_ | refine WL.val (.fieldAddrI 0 (.of rfl) Tryz.underlying34 rfl rfl Tryz.sizeOf27 rfl) rfl ?_
 refine .val (.ld (.of rfl) hS (k := 0) rfl Tryz.isAgg27 rfl) rfl (.call Tryz.func89 rfl (evs_cons (.of rfl) evs_nil) rfl (New_any a cap c.svs hc.svs hc.ords hc.sfit B _ I hl _ hS) ?_)
 clear hS
 rintro v w ⟨J, hJ, hS, hor⟩
 obtain ⟨pv, e9, i9, rfl, he9, hz9⟩ : ∃ (pv : Value) (e9 i9 : Nat), v = .tuple #[pv, I64 (e9 : Nat), I64 (i9 : Nat)] ∧ e9 = (wrong c.svs).1 ∧ (e9 = 0 → ∃ pr D, pv = .pointer (some pr) ∧ Srt.Ord (kx (ords c.svs)) c.svs.length D ∧ RegAt J pr (pickS c.svs D)) := by
  rcases hor with ⟨h1, h2⟩ | ⟨h1, pr, D, h2, h3, h4⟩
  ·exact ⟨_, _, _, h2, rfl, fun h => absurd h h1⟩
  ·exact ⟨_, 0, 0, h2, h1.symm, fun _ => ⟨pr, D, rfl, h3, h4⟩⟩
 refine .run 7 rfl trivial (.nil (.seq (.seq (.region (.run 2 rfl trivial (.nil ?_))))))
 refine WC.cond rfl (fun hb17 => ?_) (fun hb17 => ?_)
 ·
  have hc17 := hb17; try simp only [Gk.cs0] at hc17
  refine .seq (.region (.run 3 rfl trivial (.nil (.ret (ret2 Tryz.results41 rfl rfl ?_)))))
  have hne : (wrong c.svs).1 ≠ 0 := by rw [← he9]; simpa using hb17
  have hE : newE c = e9 := by rw [newE, if_pos hne, he9]
  exact ⟨_, rfl, J, hJ, .inl ⟨by rw [hE, he9]; exact hne, by rw [hE]; rfl, hS.drop (k := 0) rfl⟩⟩
 have hc17 := hb17; try simp only [Gk.cs0] at hc17
 refine .skip (.seq (.region ?_))
 first | refine WL.val (.fieldAddr 1 (.of rfl) Tryz.underlying34 rfl rfl Tryz.sizeOf28 rfl) rfl ?_ | refine WL.val (.fieldAddrI 1 (.of rfl) Tryz.underlying34 rfl rfl Tryz.sizeOf28 rfl) rfl ?_
 refine .val (.ld (.of rfl) hS (k := 0) rfl Tryz.isAgg28 rfl) rfl (.call Tryz.func90 rfl (evs_cons (.of rfl) evs_nil) rfl (usersNew_any ua ucap c.us hc.us hc.ufit B _ J (hU.mono hJ) _ hS) ?_)
 clear hS
 rintro v w ⟨J2, hJ2, hor2, hS⟩
 have hw0 : (wrong c.svs).1 = 0 := by rw [← he9]; simpa using hb17
 obtain ⟨pr, D, rfl, hOrd, hreg⟩ := hz9 (by omega)
 obtain ⟨uv, f9, j9, rfl, hf9, hy9⟩ : ∃ (uv : Value) (f9 j9 : Nat), v = .tuple #[uv, I64 (f9 : Nat), I64 (j9 : Nat)] ∧ f9 = (newU c.us 0 []).1 ∧ (f9 = 0 → ∃ ub, uv = ptr ub 0 ∧ TabAt J2 ub c.us) := by
  rcases hor2 with ⟨h1, ub, h2, h3⟩ | ⟨h1, h2⟩
  ·exact ⟨_, 0, 0, h2, h1.symm, fun _ => ⟨ub, rfl, h3⟩⟩
  ·exact ⟨_, _, _, h2, rfl, fun h => absurd h h1⟩
 refine .run 7 rfl trivial (.nil (.seq (.seq (.region (.run 2 rfl trivial (.nil ?_))))))
 refine WC.cond rfl (fun hb27 => ?_) (fun hb27 => ?_)
 ·
  have hc27 := hb27; try simp only [Gk.cs0] at hc27
  refine .seq (.region (.run 3 rfl trivial (.nil (.ret (ret2 Tryz.results41 rfl rfl ?_)))))
  have hne : (newU c.us 0 []).1 ≠ 0 := by rw [← hf9]; simpa using hb27
  have hE : newE c = f9 := by rw [newE, if_neg (by rw [hw0]; decide), if_pos hne, hf9]
  exact ⟨_, rfl, J2, hJ.trans hJ2, .inl ⟨by rw [hE, hf9]; exact hne, by rw [hE]; rfl, hS.drop (k := 0) rfl⟩⟩
 have hc27 := hb27; try simp only [Gk.cs0] at hc27
 refine .skip (.seq (.seq (.region ?_)))
 first | refine WL.val (.fieldAddr 2 (.of rfl) Tryz.underlying34 rfl rfl Tryz.sizeOf31 rfl) rfl ?_ | refine WL.val (.fieldAddrI 2 (.of rfl) Tryz.underlying34 rfl rfl Tryz.sizeOf31 rfl) rfl ?_
 refine .val (.lds (vs := [I64 (c.ps 0), I64 (c.ps 1), I64 (c.ps 2), I64 (c.ps 3), I64 (c.ps 4), I64 (c.ps 5), I64 (c.ps 6), I64 (c.ps 7), I64 (c.ps 8), I64 (c.ps 9), I64 (c.ps 10), I64 (c.ps 11), I64 (c.ps 12), I64 (c.ps 13), I64 (c.ps 14), I64 (c.ps 15), I64 (c.ps 16), I64 (c.ps 17), I64 (c.ps 18), I64 (c.ps 19), I64 (c.ps 20)]) (.of rfl) hS (k := 0) rfl Tryz.isAgg31 Tryz.sizeOf31 rfl (fun j v hj => mid_get (A := [.slice a c.svs.length cap, .slice ua c.us.length ucap]) (C := [I64 c.room, F64 c.base, F64 c.factor, F64 c.most, I64 c.tries]) hj)) rfl (.call Tryz.func91 rfl (evs_cons (.of rfl) evs_nil) rfl (rightP_any c.ps B _ J2 _ hS) ?_)
 clear hS
 rintro _ w ⟨rfl, hS⟩
 have hu0 : (newU c.us 0 []).1 = 0 := by rw [← hf9]; simpa using hb27
 obtain ⟨ub, rfl, hTab⟩ := hy9 (by omega)
 refine .run 1 rfl trivial (.nil ?_)
 refine WC.cond rfl (fun hb32 => ?_) (fun hb32 => ?_)
 ·
  have hc32 := hb32; try simp only [Gk.cs0] at hc32
  refine .seq (.region (.run 2 rfl trivial (.nil (.ret (ret2 Tryz.results41 rfl rfl ?_)))))
  have hE : newE c = 1 := by rw [newE, if_neg (by rw [hw0]; decide), if_neg (by rw [hu0]; decide), if_pos (by simpa using hb32)]
  exact ⟨_, rfl, J2, hJ.trans hJ2, .inl ⟨by rw [hE]; decide, by rw [hE]; rfl, hS.drop (k := 0) rfl⟩⟩
 have hc32 := hb32; try simp only [Gk.cs0] at hc32
 refine .skip (.seq (.drawn (fun w => ∃ R, Sat B w J2 (blk b1 [.slice a c.svs.length cap, .slice ua c.us.length ucap, I64 (c.ps 0), I64 (c.ps 1), I64 (c.ps 2), I64 (c.ps 3), I64 (c.ps 4), I64 (c.ps 5), I64 (c.ps 6), I64 (c.ps 7), I64 (c.ps 8), I64 (c.ps 9), I64 (c.ps 10), I64 (c.ps 11), I64 (c.ps 12), I64 (c.ps 13), I64 (c.ps 14), I64 (c.ps 15), I64 (c.ps 16), I64 (c.ps 17), I64 (c.ps 18), I64 (c.ps 19), I64 (c.ps 20), I64 c.room, F64 c.base, F64 c.factor, F64 c.most, I64 c.tries] 34 :: R)) (fun j => !([].contains j)) (by kernel_rfl) ?_))
 replace hS := hS.drew; generalize w.drew = w at hS ⊢
 have hH : ∃ R, Sat B w J2 (blk b1 [.slice a c.svs.length cap, .slice ua c.us.length ucap, I64 (c.ps 0), I64 (c.ps 1), I64 (c.ps 2), I64 (c.ps 3), I64 (c.ps 4), I64 (c.ps 5), I64 (c.ps 6), I64 (c.ps 7), I64 (c.ps 8), I64 (c.ps 9), I64 (c.ps 10), I64 (c.ps 11), I64 (c.ps 12), I64 (c.ps 13), I64 (c.ps 14), I64 (c.ps 15), I64 (c.ps 16), I64 (c.ps 17), I64 (c.ps 18), I64 (c.ps 19), I64 (c.ps 20), I64 c.room, F64 c.base, F64 c.factor, F64 c.most, I64 c.tries] 34 :: R) := ⟨_, (hS.pick 0 rfl)⟩
 refine WD.takeP (i := 0) rfl (by kernel_rfl) (by kernel_rfl) (by kernel_rfl) (fun w => (by first | exact .fieldAddr 23 (.of rfl) Tryz.underlying34 rfl rfl Tryz.sizeOf3 rfl | exact .fieldAddrI 23 (.of rfl) Tryz.underlying34 rfl rfl Tryz.sizeOf3 rfl)) rfl ?_
 refine .take (i := 1) rfl (by kernel_rfl) (by kernel_rfl) (by kernel_rfl) (by kernel_rfl) hH (fun w ⟨R, hS⟩ => (.ld (.of rfl) hS (k := 0) rfl Tryz.isAgg3 rfl)) rfl (.takeP (i := 4) rfl (by kernel_rfl) (by kernel_rfl) (by kernel_rfl) (fun w => (.move (.of rfl))) rfl (.takeP (i := 5) rfl (by kernel_rfl) (by kernel_rfl) (by kernel_rfl) (fun w => (.move (.of rfl))) rfl ?_))
 refine WD.takeP (i := 6) rfl (by kernel_rfl) (by kernel_rfl) (by kernel_rfl) (fun w => (by first | exact .fieldAddr 2 (.of rfl) Tryz.underlying34 rfl rfl Tryz.sizeOf31 rfl | exact .fieldAddrI 2 (.of rfl) Tryz.underlying34 rfl rfl Tryz.sizeOf31 rfl)) rfl ?_
 refine .take (i := 7) rfl (by kernel_rfl) (by kernel_rfl) (by kernel_rfl) (by kernel_rfl) hH (fun w ⟨R, hS⟩ => .lds (vs := [I64 (c.ps 0), I64 (c.ps 1), I64 (c.ps 2), I64 (c.ps 3), I64 (c.ps 4), I64 (c.ps 5), I64 (c.ps 6), I64 (c.ps 7), I64 (c.ps 8), I64 (c.ps 9), I64 (c.ps 10), I64 (c.ps 11), I64 (c.ps 12), I64 (c.ps 13), I64 (c.ps 14), I64 (c.ps 15), I64 (c.ps 16), I64 (c.ps 17), I64 (c.ps 18), I64 (c.ps 19), I64 (c.ps 20)]) (.of rfl) hS (k := 0) rfl Tryz.isAgg31 Tryz.sizeOf31 rfl (fun j v hj => mid_get (A := [.slice a c.svs.length cap, .slice ua c.us.length ucap]) (C := [I64 c.room, F64 c.base, F64 c.factor, F64 c.most, I64 c.tries]) hj)) rfl ?_
 refine WD.branch [2] (by kernel_rfl) rfl (WO.cons rfl ?_ (WO.nil))
 refine .call Tryz.func92 rfl (evs_cons (.of rfl) evs_nil) rfl (treeNew_any c.room B _ J2 _ hS) ?_
 clear hS
 rintro _ w ⟨tb, rfl, hS⟩
 refine .nil ?_
 clear hH
 have hH : ∃ R, Sat B w J2 (blk b1 [.slice a c.svs.length cap, .slice ua c.us.length ucap, I64 (c.ps 0), I64 (c.ps 1), I64 (c.ps 2), I64 (c.ps 3), I64 (c.ps 4), I64 (c.ps 5), I64 (c.ps 6), I64 (c.ps 7), I64 (c.ps 8), I64 (c.ps 9), I64 (c.ps 10), I64 (c.ps 11), I64 (c.ps 12), I64 (c.ps 13), I64 (c.ps 14), I64 (c.ps 15), I64 (c.ps 16), I64 (c.ps 17), I64 (c.ps 18), I64 (c.ps 19), I64 (c.ps 20), I64 c.room, F64 c.base, F64 c.factor, F64 c.most, I64 c.tries] 34 :: R) := ⟨_, (hS.pick 2 rfl)⟩
 refine And.intro (by intro _ _; exact hH) ?_
 refine WD.branch [3] (by kernel_rfl) rfl (WO.cons rfl ?_ (WO.nil))
 refine .call Tryz.func93 rfl (evs_cons (.of rfl) evs_nil) rfl (mintNew_any B _ J2 _ hS) ?_
 clear hS
 rintro _ w ⟨mb, rfl, hS⟩
 refine .nil ?_
 clear hH
 have hH : ∃ R, Sat B w J2 (blk b1 [.slice a c.svs.length cap, .slice ua c.us.length ucap, I64 (c.ps 0), I64 (c.ps 1), I64 (c.ps 2), I64 (c.ps 3), I64 (c.ps 4), I64 (c.ps 5), I64 (c.ps 6), I64 (c.ps 7), I64 (c.ps 8), I64 (c.ps 9), I64 (c.ps 10), I64 (c.ps 11), I64 (c.ps 12), I64 (c.ps 13), I64 (c.ps 14), I64 (c.ps 15), I64 (c.ps 16), I64 (c.ps 17), I64 (c.ps 18), I64 (c.ps 19), I64 (c.ps 20), I64 c.room, F64 c.base, F64 c.factor, F64 c.most, I64 c.tries] 34 :: R) := ⟨_, (hS.pick 4 rfl)⟩
 refine And.intro (by intro _ _; exact hH) ?_
 refine .takeP (i := 8) rfl (by kernel_rfl) (by kernel_rfl) (by kernel_rfl) (fun w => (.build (cs := [_, _, _, _, _, _, _, _, _, _, _, _, _, _, _, _, _, _, _, _, _, _, _, _, _, _]) (parts_cons (.of rfl) (parts_cons (.of rfl) (parts_cons (.of rfl) (parts_cons (.of rfl) (parts_cons (.of rfl) parts_nil))))) bld52_41 rfl)) rfl ?_
 refine WD.branch [9] (by kernel_rfl) rfl (WO.cons rfl ?_ (WO.nil))
 refine .boxA (cs := [_, _, _, _, _, _, _, _, _, _, _, _, _, _, _, _, _, _, _, _, _, _, _, _, _, _]) hS (.of rfl) rfl ?_
 clear hS; intro b42 w hS
 refine .nil ?_
 clear hH
 have hH : ∃ R, Sat B w J2 (blk b1 [.slice a c.svs.length cap, .slice ua c.us.length ucap, I64 (c.ps 0), I64 (c.ps 1), I64 (c.ps 2), I64 (c.ps 3), I64 (c.ps 4), I64 (c.ps 5), I64 (c.ps 6), I64 (c.ps 7), I64 (c.ps 8), I64 (c.ps 9), I64 (c.ps 10), I64 (c.ps 11), I64 (c.ps 12), I64 (c.ps 13), I64 (c.ps 14), I64 (c.ps 15), I64 (c.ps 16), I64 (c.ps 17), I64 (c.ps 18), I64 (c.ps 19), I64 (c.ps 20), I64 c.room, F64 c.base, F64 c.factor, F64 c.most, I64 c.tries] 34 :: R) := ⟨_, (hS.pick 5 rfl)⟩
 refine And.intro (by intro _ _; exact hH) ?_
 refine .takeP (i := 10) rfl (by kernel_rfl) (by kernel_rfl) (by kernel_rfl) (fun w => (.assign (.of rfl))) rfl (.takeP (i := 11) rfl (by kernel_rfl) (by kernel_rfl) (by kernel_rfl) (fun w => (.assign (.of rfl))) rfl (.done (by kernel_rfl) (.ret (ret2 Tryz.results41 rfl rfl ?_))))
 have hE : newE c = 0 := by rw [newE, if_neg (by rw [hw0]; decide), if_neg (by rw [hu0]; decide), if_neg (by simpa using hb32)]
 have hp := mem_pickS hOrd
 refine ⟨_, rfl, J2, hJ.trans hJ2, .inr ⟨hE, ⟨b42, tb, mb, ub, pr, pickS c.svs D, c.us, c.ps⟩, D, hOrd, rfl, rfl, rfl, rfl, ⟨hreg.mono hJ2, hTab, ?_, fun s hs => (hc.sfit s (hp s hs)).2.2, hc.ufit, fun u hu => userR_attrs (newU_ok c.us 0 [] hu0 u hu), (hK.mono hJ).mono hJ2, (hP.mono hJ).mono hJ2⟩, ?_⟩⟩
 ·show (pickS c.svs D).length ≤ 100000
  rw [pickS, List.length_map, hOrd.len]; exact hc.svs
 ·exact Sat.box (T := wdT ⟨b42, tb, mb, ub, pr, pickS c.svs D, c.us, c.ps⟩ (w0 c)) (none, 0, none, 0) ((((((hS.pick 2 rfl).pick 2 rfl).pick 4 rfl).pick 4 rfl).pick 4 rfl).drop (k := 5) rfl)
end Go.Proofs.YtadhiihnnkcagaaGreatDoor
namespace Go.Proofs.YtadhiihnnkcagaaGreatDoor
open Gk Ul Pc Tk Tr
set_option linter.unusedVariables false
set_option linter.unusedSimpArgs false
structure Sx where
 user : List UInt8
 attrs : List Pr
 proxies : List (List UInt8)
 iou : List UInt8
def SxAt (J : Im) (x : Sx) (cs : List Value) : Prop := ∃ ka kc pa pc, cs = [S x.user, .slice ka x.attrs.length kc, .slice pa x.proxies.length pc, S x.iou] ∧ x.attrs.length ≤ kc ∧ RS J ka 2 x.attrs.length (rowsC prCells x.attrs) ∧ x.proxies.length ≤ pc ∧ RS J pa 1 x.proxies.length (x.proxies.map S)
theorem SxAt.mono {I J : Im} {x : Sx} {cs : List Value} (h : SxAt I x cs) (hl : Le I J) : SxAt J x cs := by
 obtain ⟨ka, kc, pa, pc, e, h1, h2, h3, h4⟩ := h
 exact ⟨ka, kc, pa, pc, e, h1, h2.mono hl, h3, h4.mono hl⟩
end Go.Proofs.YtadhiihnnkcagaaGreatDoor
