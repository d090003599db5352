/- Part 6 of what the proof stands on: W17c, PatN, W17d, PatT, PatU, PatV, PatW, PatX, PatY, PatR, PatQ, PatL, PatO. -/
import Derived.Test.YtchgkcbloeoopaaGreatDoorM18E
namespace Go.Proofs.YtchgkcbloeoopaaGreatDoor
open Gk Pat
set_option linter.unusedVariables false
set_option linter.unusedSimpArgs false
theorem set_last (xs : List Value) (x y : Value) (r : List Value) : ((xs ++ [x]) ++ r).set (0 + (xs.length : Int).toNat * 1) y = (xs ++ [y]) ++ r := by
 rw [Int.toNat_natCast, Nat.zero_add, Nat.mul_one, List.append_assoc, List.set_append_right _ _ (Nat.le_refl _)]
 simp
theorem hasPre2 {l : List UInt8} {k : Nat} (h : hasPre (l.drop (k : Int).toNat) [42, 42] = true) (hk : k < l.length) : k + 1 < l.length := by
 simp [hasPre] at h
 omega
theorem hasPre2c {l : List UInt8} {k : Nat} (h : hasPre (l.drop (k : Int).toNat) [42, 42] = true) (hk : k + 1 < l.length) : (at_ l ((k + 1 : Nat) : Int)).toNat = 42 := by
 rw [Int.toNat_natCast, drop_at l (k := k) (by omega), drop_at l (k := k + 1) hk] at h
 simp [hasPre] at h
 rw [show ((k + 1 : Nat) : Int) = (k : Int) + 1 from rfl, h.2.2]; rfl
theorem star1 {l : List UInt8} {k : Nat} {Q : List Pl} {stk : List PFr} {ats : List Int} {X : Except (Int × Int) (List Pl)} (h : hasPre (l.drop (k : Int).toNat) [42, 42] = false) (hk : k < l.length ∧ (at_ l (k : Int)).toNat = 42)
  (e : (match l.drop (k + 1) with
   | d :: r' => if d.toNat = 42 then cmpGo r' ((k : Int) + 2) (Q ++ [(2, 0, [])]) stk ats else cmpGo (d :: r') ((k : Int) + 1) (Q ++ [(3, 0, [])]) stk ats
   | [] => cmpGo [] ((k : Int) + 1) (Q ++ [(3, 0, [])]) stk ats) = X) : cmpGo (l.drop (k + 1)) ((k : Int) + 1) (Q ++ [(3, 0, [])]) stk ats = X := by
 cases hd : l.drop (k + 1) with
 | nil => rw [hd] at e; exact e
 | cons d r =>
  rw [hd] at e
  have hne : ¬ d.toNat = 42 := fun h42 => by
   rw [Int.toNat_natCast, drop_at l (k := k) hk.1, hd] at h
   have h1 : at_ l (k : Int) = 42 := UInt8.toNat_inj.1 hk.2
   have h2 : d = 42 := UInt8.toNat_inj.1 h42
   rw [h1, h2] at h
   simp [hasPre] at h
   omega
  simp only [hne, if_false] at e
  exact e
theorem info3_18 : Tryz.prog.info? 3 = some Tryz.t3 := by kernel_rfl
theorem bld81_18 : Bld Tryz.prog 81 [(0, 1), (1, 1), (2, 1)] [.slice none 0 0, .slice none 0 0, .slice none 0 0] := bld_of Tryz.underlying81 Tryz.zeroValue81 (fun w => by simp [go_sem])
theorem bld86_18 : Bld Tryz.prog 86 [(0, 1), (1, 1)] [.slice none 0 0, .int .i64 0] := bld_of Tryz.underlying86 Tryz.zeroValue86 (fun w => by simp [go_sem])
set_option maxHeartbeats 1600000 in
theorem Compile_any (l : List UInt8) (B w : World) (I : Im) (As : List Assn) (hS : Sat B w I As) (hl : l.length ≤ 9223372036854775807) :
  Calls Tryz.prog 18 [S l].toArray w (Ret fun v w' => (∃ e a J, cmp l = .error (e, a) ∧ v = .tuple #[.pointer none, I64 e, I64 a] ∧ Le I J ∧ Sat B w' J As) ∨
   (∃ Q p J, cmp l = .ok Q ∧ v = .tuple #[.pointer (some p), I64 0, I64 0] ∧ Le I J ∧ PatI J p Q l.length ∧ Sat B w' J As)) := by
 refine calls Tryz.func18 rfl Tryz.ntmps18 rfl ?_
 refine WC.seq ?_
 refine WC.region ?_
 refine WL.val (.assign (.of rfl)) rfl ?_
 refine WL.val (.assign (.of rfl)) rfl ?_
 refine WL.val (.assign (.of rfl)) rfl ?_
 refine WL.nil ?_
 refine WC.seq ?_
 refine WC.seq ?_
 refine WC.region ?_
 refine WL.val (.move (.of rfl)) rfl ?_
 refine WL.val (.len (.of rfl) Tryz.underlying9) rfl ?_
 refine WL.val (.gtr (.of rfl) (.of rfl)) rfl ?_
 refine WL.nil ?_
 refine WC.cond rfl (fun hb12 => ?_) (fun hb12 => ?_)
 ·
  have hc12 := hb12; try simp only [Gk.cs0] at hc12
  refine WC.seq ?_
  refine WC.region ?_
  refine WL.val (.assign (.of rfl)) rfl ?_
  refine WL.val (.assign (.of rfl)) rfl ?_
  refine WL.val (.assign (.of rfl)) rfl ?_
  refine WL.nil ?_
  refine WC.ret ?_
  refine ret3 Tryz.results18 rfl rfl rfl ?_
  exact ⟨_, rfl, .inl ⟨_, _, I, by rw [cmp, if_pos (by omega)], rfl, Le.refl I, hS⟩⟩
 ·
  have hc12 := hb12; try simp only [Gk.cs0] at hc12
  refine WC.skip ?_
  refine WC.seq ?_
  refine WC.region ?_
  refine WL.val (.build (cs := [_, _, _]) parts_nil bld81_18 rfl) rfl ?_
  refine WL.boxA (cs := [_, _, _]) hS (.of rfl) rfl ?_
  clear hS; intro b14 w hS
  have hS := ((((Sat_sepNil hS).vecNil 3 1).vecNil 68 1).vecNil 99 3).pick 4 rfl; try dsimp only [List.eraseIdx] at hS
  refine WL.val (.assign (.of rfl)) rfl ?_
  refine WL.nil ?_
  refine WC.seq ?_
  refine WC.seq ?_
  refine WC.region ?_
  refine WL.val (.assign (.of rfl)) rfl ?_
  refine WL.nil ?_
  refine WC.block ?_
  refine WC.loop (σ := Nat × List PFr × List (Value × List Int) × List Pl × List Cell3 × Value × Value × Value × List Int × Im) (fun ⟨k, stk, st, Q, P, lv, sv, av, ats, J⟩ => [(0, S l), (5, ptr b14 0), (6, I64 (k : Nat))]) (fun ⟨k, stk, st, Q, P, lv, sv, av, ats, J⟩ w => k ≤ l.length ∧ Q.length ≤ k ∧ st.map (·.2) = stk.reverse.map mks ∧ stk.length ≤ 4 ∧ ats.length = stk.length ∧ Frames Q Q.length stk ∧ RelP J P Q ∧ Le I J ∧ cmpGo (l.drop k) k Q stk ats = cmp l ∧ Sat B w J (blk b14 [lv, sv, av] 81 :: Vec 99 3 lv P.length (P.flatMap enc) :: Vec 68 1 sv st.length (st.map (·.1)) :: Vec 3 1 av ats.length (ats.map I64) :: rowsA 3 st :: As)) (fun ⟨k, stk, st, Q, P, lv, sv, av, ats, J⟩ => l.length - k) (0, [], [], [], [], .slice none 0 0, .slice none 0 0, .slice none 0 0, [], I) ⟨rfl, rfl, rfl, trivial⟩ ⟨Nat.zero_le _, Nat.le_refl _, rfl, by simp, rfl, trivial, RelP.nil _, Le.refl _, by rw [cmp, if_neg (by omega)]; rfl, hS⟩ ?_
  rintro ⟨k, stk, st, Q, P, lv, sv, av, ats, J⟩ w ⟨hk, hQk, hst, hlen4, hats, hF, hR, hJ, hq, hS⟩
  change WC _ _ _ _ [(0, S l), (5, ptr b14 0), (6, I64 (k : Nat))] w
  obtain ⟨la, lc, rfl, hlc, _⟩ := hS.vecSlice (k := 1) rfl
  obtain ⟨sa, sc, rfl, hsc, _⟩ := hS.vecSlice (k := 2) rfl
  obtain ⟨aa, ac, rfl, hac, _⟩ := hS.vecSlice (k := 3) rfl
  have hst2 : st.length = stk.length := by have := congrArg List.length hst; simpa using this
  have hPQ := hR.1
  refine WC.seq ?_
  refine WC.seq ?_
  refine WC.region ?_
  refine WL.val (.move (.of rfl)) rfl ?_
  refine WL.val (.move (.of rfl)) rfl ?_
  refine WL.val (.len (.of rfl) Tryz.underlying9) rfl ?_
  refine WL.val (.lss (.of rfl) (.of rfl)) rfl ?_
  refine WL.nil ?_
  refine WC.cond rfl (fun hb18 => ?_) (fun hb18 => ?_)
  ·
   have hc18 := hb18; try simp only [Gk.cs0] at hc18
   refine WC.skip ?_
   refine WC.seq ?_
   refine WC.block ?_
   refine WC.seq ?_
   refine WC.region ?_
   refine WL.val (.move (.of rfl)) rfl ?_
   refine WL.val (.nilCheck (.of rfl)) rfl ?_
   first | refine WL.val (.fieldAddr 1 (.of rfl) Tryz.underlying81 rfl rfl Tryz.sizeOf79 rfl) rfl ?_ | refine WL.val (.fieldAddrI 1 (.of rfl) Tryz.underlying81 rfl rfl Tryz.sizeOf79 rfl) rfl ?_
   first | refine WL.val (.ld (.of rfl) hS (k := 0) rfl Tryz.isAgg79 rfl) rfl ?_ | refine WL.val (.ld (.of rfl) hS (k := 1) rfl Tryz.isAgg79 rfl) rfl ?_ | refine WL.val (.ld (.of rfl) hS (k := 2) rfl Tryz.isAgg79 rfl) rfl ?_ | refine WL.val (.ld (.of rfl) hS (k := 3) rfl Tryz.isAgg79 rfl) rfl ?_ | refine WL.val (.ld (.of rfl) hS (k := 4) rfl Tryz.isAgg79 rfl) rfl ?_
   refine WL.val (.lenSlice (.of rfl) Tryz.underlying79) rfl ?_
   refine WL.val (.assign (.of rfl)) rfl ?_
   refine WL.nil ?_
   refine WC.seq ?_
   refine WC.region ?_
   refine WL.val (.move (.of rfl)) rfl ?_
   refine WL.val (.move (.of rfl)) rfl ?_
   refine WL.val (.index (.of rfl) (.of rfl) (by omega) (by omega) Tryz.underlying9) rfl ?_
   refine WL.val (.assign (.of rfl)) rfl ?_
   refine WL.nil ?_
   refine WC.seq ?_
   refine WC.region ?_
   refine WL.val (.move (.of rfl)) rfl ?_
   refine WL.nil ?_
   refine WC.block ?_
   refine WC.seq ?_
   refine WC.region ?_
   refine WL.val (.eql (.of rfl) (.of rfl)) rfl ?_
   refine WL.val (.assign (.of rfl)) rfl ?_
   refine WL.nil ?_
   refine WC.cond rfl (fun hb33 => ?_) (fun hb33 => ?_)
   ·
    have hc33 := hb33; try simp only [Gk.cs0] at hc33
    refine WC.region ?_
    refine WL.val (.move (.of rfl)) rfl ?_
    refine WL.call Tryz.func37 rfl (evs_cons (.of rfl) (evs_cons (.of rfl) (evs_cons (.of rfl) evs_nil))) rfl (put_any _ P.length _ _ _ _ _ _ _ _ _ _ hS (by omega)) ?_
    clear hS
    rintro _ w ⟨rfl, lv2, hS⟩
    refine WL.nil ?_
    refine WC.region ?_
    refine WL.val (.move (.of rfl)) rfl ?_
    refine WL.val (.add (.of rfl) (.of rfl) ⟨by omega, by omega⟩) rfl ?_
    refine WL.val (.assign (.of rfl)) rfl ?_
    refine WL.nil ?_
    have e9 := hq
    rw [drop_at l (by omega), cmpGo_cons, if_pos (by omega)] at e9
    refine ⟨(k + 1, stk, st, Q ++ [(1, 0, [])], P ++ [(1, 0, .slice none 0 0)], lv2, .slice sa st.length sc, .slice aa ats.length ac, ats, J), ⟨rfl, rfl, rfl, trivial⟩, ⟨by omega, by rw [List.length_append]; simp; omega, hst, hlen4, hats, hF.app _, hR.snoc _ _ _ _ (IntsI.nil _), hJ, e9, ?_⟩, by dsimp only; omega⟩
    rw [List.length_append, List.flatMap_append]; exact hS
   ·
    have hc33 := hb33; try simp only [Gk.cs0] at hc33
    refine WC.seq ?_
    refine WC.region ?_
    refine WL.val (.eql (.of rfl) (.of rfl)) rfl ?_
    refine WL.val (.assign (.of rfl)) rfl ?_
    refine WL.nil ?_
    refine WC.cond rfl (fun hb37 => ?_) (fun hb37 => ?_)
    ·
     have hc37 := hb37; try simp only [Gk.cs0] at hc37
     refine WC.seq ?_
     refine WC.region ?_
     refine WL.val (.move (.of rfl)) rfl ?_
     refine WL.val (.move (.of rfl)) rfl ?_
     refine WL.val (.subFrom (.of rfl) (.of rfl) (by omega) (by omega) Tryz.underlying9) rfl ?_
     refine WL.call Tryz.func38 rfl (evs_cons (.of rfl) (evs_cons (.of rfl) evs_nil)) rfl (HasPrefix_any _ _ _ (by simp; omega) (by simp)) ?_
     rintro _ _ ⟨rfl, rfl⟩
     refine WL.nil ?_
     refine WC.cond rfl (fun hb42 => ?_) (fun hb42 => ?_)
     ·
      have hc42 := hb42; try simp only [Gk.cs0] at hc42
      refine WC.seq ?_
      refine WC.region ?_
      refine WL.val (.move (.of rfl)) rfl ?_
      refine WL.call Tryz.func37 rfl (evs_cons (.of rfl) (evs_cons (.of rfl) (evs_cons (.of rfl) evs_nil))) rfl (put_any _ P.length _ _ _ _ _ _ _ _ _ _ hS (by omega)) ?_
      clear hS
      rintro _ w ⟨rfl, lv2, hS⟩
      refine WL.nil ?_
      refine WC.region ?_
      refine WL.val (.move (.of rfl)) rfl ?_
      refine WL.val (.add (.of rfl) (.of rfl) ⟨by omega, by omega⟩) rfl ?_
      refine WL.val (.assign (.of rfl)) rfl ?_
      refine WL.nil ?_
      refine WC.region ?_
      refine WL.val (.move (.of rfl)) rfl ?_
      refine WL.val (.add (.of rfl) (.of rfl) ⟨by omega, by omega⟩) rfl ?_
      refine WL.val (.assign (.of rfl)) rfl ?_
      refine WL.nil ?_
      have e9 := hq
      have hk2 : k + 1 < l.length := hasPre2 hb42 (by omega)
      rw [drop_at l (by omega), cmpGo_cons, if_neg (by omega), if_pos (by omega), drop_at l hk2] at e9
      simp only [] at e9
      rw [if_pos (hasPre2c hb42 hk2)] at e9
      refine ⟨(k + 2, stk, st, Q ++ [(2, 0, [])], P ++ [(2, 0, .slice none 0 0)], lv2, .slice sa st.length sc, .slice aa ats.length ac, ats, J), ⟨rfl, rfl, rfl, trivial⟩, ⟨by omega, by rw [List.length_append]; simp; omega, hst, hlen4, hats, hF.app _, hR.snoc _ _ _ _ (IntsI.nil _), hJ, e9, ?_⟩, by dsimp only; omega⟩
      rw [List.length_append, List.flatMap_append]; exact hS
     ·
      have hc42 := hb42; try simp only [Gk.cs0] at hc42
      refine WC.region ?_
      refine WL.val (.move (.of rfl)) rfl ?_
      refine WL.call Tryz.func37 rfl (evs_cons (.of rfl) (evs_cons (.of rfl) (evs_cons (.of rfl) evs_nil))) rfl (put_any _ P.length _ _ _ _ _ _ _ _ _ _ hS (by omega)) ?_
      clear hS
      rintro _ w ⟨rfl, lv2, hS⟩
      refine WL.nil ?_
      refine WC.region ?_
      refine WL.val (.move (.of rfl)) rfl ?_
      refine WL.val (.add (.of rfl) (.of rfl) ⟨by omega, by omega⟩) rfl ?_
      refine WL.val (.assign (.of rfl)) rfl ?_
      refine WL.nil ?_
      have e9 := hq
      rw [drop_at l (by omega), cmpGo_cons, if_neg (by omega), if_pos (by omega)] at e9
      have e9 := star1 hb42 (by omega) e9
      refine ⟨(k + 1, stk, st, Q ++ [(3, 0, [])], P ++ [(3, 0, .slice none 0 0)], lv2, .slice sa st.length sc, .slice aa ats.length ac, ats, J), ⟨rfl, rfl, rfl, trivial⟩, ⟨by omega, by rw [List.length_append]; simp; omega, hst, hlen4, hats, hF.app _, hR.snoc _ _ _ _ (IntsI.nil _), hJ, e9, ?_⟩, by dsimp only; omega⟩
      rw [List.length_append, List.flatMap_append]; exact hS
    ·
     have hc37 := hb37; try simp only [Gk.cs0] at hc37
     refine WC.seq ?_
     refine WC.region ?_
     refine WL.val (.eql (.of rfl) (.of rfl)) rfl ?_
     refine WL.val (.assign (.of rfl)) rfl ?_
     refine WL.nil ?_
     refine WC.cond rfl (fun hb49 => ?_) (fun hb49 => ?_)
     ·
      have hc49 := hb49; try simp only [Gk.cs0] at hc49
      refine WC.seq ?_
      refine WC.seq ?_
      refine WC.region ?_
      refine WL.val (.move (.of rfl)) rfl ?_
      refine WL.val (.eql (.of rfl) (.of rfl)) rfl ?_
      refine WL.nil ?_
      refine WC.cond rfl (fun hb52 => ?_) (fun hb52 => ?_)
      ·
       have hc52 := hb52; try simp only [Gk.cs0] at hc52
       refine WC.seq ?_
       refine WC.region ?_
       refine WL.val (.move (.of rfl)) rfl ?_
       refine WL.val (.assign (.of rfl)) rfl ?_
       refine WL.val (.assign (.of rfl)) rfl ?_
       refine WL.val (.assign (.of rfl)) rfl ?_
       refine WL.nil ?_
       refine WC.ret ?_
       refine ret3 Tryz.results18 rfl rfl rfl ?_
       have e9 : cmp l = .error (24, (k : Int)) := by rw [← hq, drop_at l (by omega), cmpGo_cons, if_neg (by omega), if_neg (by omega), if_pos (by omega), if_pos (by omega)]
       exact ⟨_, rfl, .inl ⟨_, _, J, e9, rfl, hJ, ((((hS.drop (k := 0) rfl).drop (k := 0) rfl).drop (k := 0) rfl).drop (k := 0) rfl).drop (k := 0) rfl⟩⟩
      ·
       have hc52 := hb52; try simp only [Gk.cs0] at hc52
       refine WC.skip ?_
       refine WC.region ?_
       refine WL.val (.move (.of rfl)) rfl ?_
       refine WL.val (.move (.of rfl)) rfl ?_
       refine WL.call Tryz.func39 rfl (evs_cons (.of rfl) (evs_cons (.of rfl) evs_nil)) rfl (bracket_any _ P.length _ _ _ _ st ats _ _ _ _ _ hS (by omega) (by omega) (by omega)) ?_
       clear hS
       rintro _ w ⟨rfl, lv2, sv2, av2, mv2, hS⟩
       refine WL.nil ?_
       refine WC.region ?_
       refine WL.val (.move (.of rfl)) rfl ?_
       refine WL.val (.add (.of rfl) (.of rfl) ⟨by omega, by omega⟩) rfl ?_
       refine WL.val (.assign (.of rfl)) rfl ?_
       refine WL.nil ?_
       have e9 := hq
       rw [drop_at l (by omega), cmpGo_cons, if_neg (by omega), if_neg (by omega), if_pos (by omega), if_neg (by omega)] at e9
       have hx := hR.1
       refine ⟨(k + 1, (Q.length, []) :: stk, st ++ [(mv2, [(P.length : Int)])], Q ++ [(4, 0, [])], P ++ [(4, 0, .slice none 0 0)], lv2, sv2, av2, ats ++ [(k : Int)], J), ⟨rfl, rfl, rfl, trivial⟩, ⟨by omega, by rw [List.length_append]; simp; omega, ?_, by simp; omega, by simp [hats], ⟨by simp, by simp, by simp, fun b hb => by simp at hb, hF.grow (by simp) (by simp) fun i hi hq2 => by rw [List.getElem?_append_left hi]; exact hq2⟩, hR.snoc _ _ _ _ (IntsI.nil _), hJ, e9, ?_⟩, by dsimp only; omega⟩
       ·simp [hst, mks, hx]
       ·simp only [List.length_append, List.flatMap_append, List.map_append, List.length_singleton, List.map_cons, List.map_nil]; exact hS
     ·
      have hc49 := hb49; try simp only [Gk.cs0] at hc49
      refine WC.seq ?_
      refine WC.seq ?_
      refine WC.region ?_
      refine WL.val (.eql (.of rfl) (.of rfl)) rfl ?_
      refine WL.val (.assign (.of rfl)) rfl ?_
      refine WL.nil ?_
      refine WC.cond rfl (fun hb57 => ?_) (fun hb57 => ?_)
      ·
       have hc57 := hb57; try simp only [Gk.cs0] at hc57
       refine WC.skip ?_
       refine WC.cond rfl (fun hb57 => ?_) (fun hb57 => by exfalso; simp only [Gk.cs0] at hb57; omega)
       have hc57 := hb57; try simp only [Gk.cs0] at hc57
       refine WC.seq ?_
       refine WC.seq ?_
       refine WC.region ?_
       refine WL.val (.move (.of rfl)) rfl ?_
       refine WL.val (.eql (.of rfl) (.of rfl)) rfl ?_
       refine WL.nil ?_
       refine WC.cond rfl (fun hb61 => ?_) (fun hb61 => ?_)
       ·
        have hc61 := hb61; try simp only [Gk.cs0] at hc61
        refine WC.seq ?_
        refine WC.region ?_
        refine WL.val (.move (.of rfl)) rfl ?_
        refine WL.val (.assign (.of rfl)) rfl ?_
        refine WL.val (.assign (.of rfl)) rfl ?_
        refine WL.val (.assign (.of rfl)) rfl ?_
        refine WL.nil ?_
        refine WC.ret ?_
        refine ret3 Tryz.results18 rfl rfl rfl ?_
        obtain rfl : stk = [] := List.eq_nil_of_length_eq_zero (by omega)
        have e9 : cmp l = .error (10, (k : Int)) := by rw [← hq, drop_at l (by omega), cmpGo_cons, if_neg (by omega), if_neg (by omega), if_neg (by omega), if_pos (by omega)]
        exact ⟨_, rfl, .inl ⟨_, _, J, e9, rfl, hJ, ((((hS.drop (k := 0) rfl).drop (k := 0) rfl).drop (k := 0) rfl).drop (k := 0) rfl).drop (k := 0) rfl⟩⟩
       ·
        have hc61 := hb61; try simp only [Gk.cs0] at hc61
        refine WC.skip ?_
        refine WC.seq ?_
        refine WC.seq ?_
        refine WC.region ?_
        refine WL.val (.move (.of rfl)) rfl ?_
        refine WL.val (.eql (.of rfl) (.of rfl)) rfl ?_
        refine WL.nil ?_
        refine WC.cond rfl (fun hb64 => by exfalso; simp only [Gk.cs0] at hb64; omega) (fun hb64 => ?_)
        have hc64 := hb64; try simp only [Gk.cs0] at hc64
        refine WC.skip ?_
        refine WC.seq ?_
        obtain ⟨o, bs, rest, rfl⟩ : ∃ o bs rest, stk = (o, bs) :: rest := by
         cases stk with
         | nil => exfalso; have : st.length = 0 := hst2; omega
         | cons f r => exact ⟨f.1, f.2, r, rfl⟩
        obtain ⟨st0, mv, rfl, hst0⟩ := stk_snoc hst
        obtain ⟨hf1, hf2, hf3, hf4, hf5⟩ := id hF
        simp only [List.map_append, List.map_cons, List.map_nil, List.length_append, List.length_singleton] at hS
        have hl0 : st0.length + 1 = rest.length + 1 := by simpa using hst2
        have hats2 : ats.length = rest.length + 1 := by simpa using hats
        have hlen5 : rest.length + 1 ≤ 4 := by simpa using hlen4
        obtain ⟨gs, sc2, rs, hv8, hsc1, hsc2, hsc3, hsc4, hS⟩ := hS.vecOpen (k := 2) rfl (by omega)
        injection hv8 with hv8 _ hv9; subst hv8; subst hv9; try dsimp only [List.set] at hS
        have e4 : rowsA 3 (st0 ++ [(mv, mks (o, bs))]) = SepAll ((st0.map fun x => Vec 3 1 x.1 x.2.length (x.2.map I64)) ++ [Vec 3 1 mv (mks (o, bs)).length ((mks (o, bs)).map I64)]) := by rw [rowsA, List.map_append]; rfl
        rw [e4] at hS
        replace hS := hS.pop (k := 4) rfl; try dsimp only [List.set] at hS
        obtain ⟨ma, mc, rfl, hmc, _⟩ := hS.vecSlice (k := 0) rfl
        have hmk : (mks (o, bs)).length = bs.length + 1 := by simp [mks]
        have e28 : (((st0 ++ [(Value.slice ma (mks (o, bs)).length mc, mks (o, bs))]).length : Nat) : Int) - 1 = (st0.length : Int) := by simp
        refine WC.drawn (fun w => ∃ R, Sat B w J (blk gs ((st0.map (·.1) ++ [Value.slice ma (mks (o, bs)).length mc]) ++ rs) 68 :: blk b14 [.slice la P.length lc, .slice (some (ad gs 0)) (st0.length + 1) sc, .slice aa ats.length ac] 81 :: R)) (fun j => !([22].contains j)) (by kernel_rfl) ?_
        replace hS := hS.drew; generalize w.drew = w at hS ⊢
        have hH : ∃ R, Sat B w J (blk gs ((st0.map (·.1) ++ [Value.slice ma (mks (o, bs)).length mc]) ++ rs) 68 :: blk b14 [.slice la P.length lc, .slice (some (ad gs 0)) (st0.length + 1) sc, .slice aa ats.length ac] 81 :: R) := ⟨_, ((hS.pick 1 rfl).pick 3 rfl)⟩
        refine WD.takeP (i := 0) rfl (by kernel_rfl) (by kernel_rfl) (by kernel_rfl) (fun w => (.move (.of rfl))) rfl ?_
        refine WD.takeP (i := 1) rfl (by kernel_rfl) (by kernel_rfl) (by kernel_rfl) (fun w => (.nilCheck (.of rfl))) rfl ?_
        refine WD.takeP (i := 2) rfl (by kernel_rfl) (by kernel_rfl) (by kernel_rfl) (fun w => (by first | exact .fieldAddr 1 (.of rfl) Tryz.underlying81 rfl rfl Tryz.sizeOf79 rfl | exact .fieldAddrI 1 (.of rfl) Tryz.underlying81 rfl rfl Tryz.sizeOf79 rfl)) rfl ?_
        refine WD.take (i := 3) rfl (by kernel_rfl) (by kernel_rfl) (by kernel_rfl) (by kernel_rfl) hH (fun w ⟨R, hS⟩ => (by first | exact (.ld (.of rfl) hS (k := 0) rfl Tryz.isAgg79 rfl) | exact (.ld (.of rfl) hS (k := 1) rfl Tryz.isAgg79 rfl))) rfl ?_
        refine WD.takeP (i := 4) rfl (by kernel_rfl) (by kernel_rfl) (by kernel_rfl) (fun w => (.move (.of rfl))) rfl ?_
        refine WD.takeP (i := 5) rfl (by kernel_rfl) (by kernel_rfl) (by kernel_rfl) (fun w => (.sub (.of rfl) (.of rfl) ⟨by omega, by omega⟩)) rfl ?_
        refine WD.takeP (i := 6) rfl (by kernel_rfl) (by kernel_rfl) (by kernel_rfl) (fun w => (.move (.of rfl))) rfl ?_
        refine WD.takeP (i := 7) rfl (by kernel_rfl) (by kernel_rfl) (by kernel_rfl) (fun w => (.nilCheck (.of rfl))) rfl ?_
        refine WD.takeP (i := 8) rfl (by kernel_rfl) (by kernel_rfl) (by kernel_rfl) (fun w => (by first | exact .fieldAddr 1 (.of rfl) Tryz.underlying81 rfl rfl Tryz.sizeOf79 rfl | exact .fieldAddrI 1 (.of rfl) Tryz.underlying81 rfl rfl Tryz.sizeOf79 rfl)) rfl ?_
        refine WD.take (i := 9) rfl (by kernel_rfl) (by kernel_rfl) (by kernel_rfl) (by kernel_rfl) hH (fun w ⟨R, hS⟩ => (by first | exact (.ld (.of rfl) hS (k := 0) rfl Tryz.isAgg79 rfl) | exact (.ld (.of rfl) hS (k := 1) rfl Tryz.isAgg79 rfl))) rfl ?_
        refine WD.takeP (i := 10) rfl (by kernel_rfl) (by kernel_rfl) (by kernel_rfl) (fun w => (.move (.of rfl))) rfl ?_
        refine WD.takeP (i := 11) rfl (by kernel_rfl) (by kernel_rfl) (by kernel_rfl) (fun w => (.sub (.of rfl) (.of rfl) ⟨by omega, by omega⟩)) rfl ?_
        refine WD.takeP (i := 12) rfl (by kernel_rfl) (by kernel_rfl) (by kernel_rfl) (fun w => (by first | exact .indexAddr (.of rfl) (.of rfl) (by omega) (by omega) Tryz.underlying79 Tryz.sizeOf68 | exact .indexAddrI (.of rfl) (.of rfl) (by omega) (by omega) Tryz.underlying79 Tryz.sizeOf68)) rfl ?_
        refine WD.take (i := 13) rfl (by kernel_rfl) (by kernel_rfl) (by kernel_rfl) (by kernel_rfl) hH (fun w ⟨R, hS⟩ => .ld (.of rfl) hS (k := 0) rfl Tryz.isAgg68 (v := Value.slice ma (mks (o, bs)).length mc) (by rw [e28]; simp)) rfl ?_
        refine WD.takeP (i := 14) rfl (by kernel_rfl) (by kernel_rfl) (by kernel_rfl) (fun w => (.move (.of rfl))) rfl ?_
        refine WD.takeP (i := 15) rfl (by kernel_rfl) (by kernel_rfl) (by kernel_rfl) (fun w => (.nilCheck (.of rfl))) rfl ?_
        refine WD.takeP (i := 16) rfl (by kernel_rfl) (by kernel_rfl) (by kernel_rfl) (fun w => (by first | exact .fieldAddr 0 (.of rfl) Tryz.underlying81 rfl rfl Tryz.sizeOf78 rfl | exact .fieldAddrI 0 (.of rfl) Tryz.underlying81 rfl rfl Tryz.sizeOf78 rfl)) rfl ?_
        refine WD.take (i := 17) rfl (by kernel_rfl) (by kernel_rfl) (by kernel_rfl) (by kernel_rfl) hH (fun w ⟨R, hS⟩ => (by first | exact (.ld (.of rfl) hS (k := 0) rfl Tryz.isAgg78 rfl) | exact (.ld (.of rfl) hS (k := 1) rfl Tryz.isAgg78 rfl))) rfl ?_
        refine WD.takeP (i := 18) rfl (by kernel_rfl) (by kernel_rfl) (by kernel_rfl) (fun w => (.lenSlice (.of rfl) Tryz.underlying78)) rfl ?_
        refine WD.branch [19] (by kernel_rfl) rfl (WO.cons rfl ?_ (WO.nil))
        refine WL.buildSlice (cs := [_]) hS (parts_cons (.of rfl) parts_nil) Tryz.underlying68 Tryz.sizeOf3 Tryz.zeroValue3 rfl rfl rfl rfl ?_
        clear hS; intro b86 w hS
        refine WL.nil ?_
        clear hH
        have hH : ∃ R, Sat B w J (blk gs ((st0.map (·.1) ++ [Value.slice ma (mks (o, bs)).length mc]) ++ rs) 68 :: blk b14 [.slice la P.length lc, .slice (some (ad gs 0)) (st0.length + 1) sc, .slice aa ats.length ac] 81 :: R) := ⟨_, ((hS.pick 2 rfl).pick 4 rfl)⟩
        refine And.intro (by intro _ _; exact hH) ?_
        refine WD.branch [20] (by kernel_rfl) rfl (WO.cons rfl ?_ (WO.nil))
        first | refine WL.append (size := 1) (bytes := 8) hS (.of rfl) (.of rfl) (k := 0) rfl Tryz.underlying68 info3_18 rfl rfl rfl rfl rfl rfl rfl ⟨by omega, by unfold maxLen; omega⟩ rfl ?_ | refine WL.append (size := 1) (bytes := 8) hS (.of rfl) (.of rfl) (k := 1) rfl Tryz.underlying68 info3_18 rfl rfl rfl rfl rfl rfl rfl ⟨by omega, by unfold maxLen; omega⟩ rfl ?_ | refine WL.append (size := 1) (bytes := 8) hS (.of rfl) (.of rfl) (k := 2) rfl Tryz.underlying68 info3_18 rfl rfl rfl rfl rfl rfl rfl ⟨by omega, by unfold maxLen; omega⟩ rfl ?_ | refine WL.append (size := 1) (bytes := 8) hS (.of rfl) (.of rfl) (k := 3) rfl Tryz.underlying68 info3_18 rfl rfl rfl rfl rfl rfl rfl ⟨by omega, by unfold maxLen; omega⟩ rfl ?_ | refine WL.append (size := 1) (bytes := 8) hS (.of rfl) (.of rfl) (k := 4) rfl Tryz.underlying68 info3_18 rfl rfl rfl rfl rfl rfl rfl ⟨by omega, by unfold maxLen; omega⟩ rfl ?_ | refine WL.append (size := 1) (bytes := 8) hS (.of rfl) (.of rfl) (k := 5) rfl Tryz.underlying68 info3_18 rfl rfl rfl rfl rfl rfl rfl ⟨by omega, by unfold maxLen; omega⟩ rfl ?_
        clear hS; intro v87 w hS; try dsimp only [List.set] at hS
        first | obtain ⟨a87, c87, rfl, hcap87, _⟩ := hS.vecSlice (k := 0) (v := v87) rfl | obtain ⟨a87, c87, rfl, hcap87, _⟩ := hS.vecSlice (k := 1) (v := v87) rfl | obtain ⟨a87, c87, rfl, hcap87, _⟩ := hS.vecSlice (k := 2) (v := v87) rfl | obtain ⟨a87, c87, rfl, hcap87, _⟩ := hS.vecSlice (k := 3) (v := v87) rfl | obtain ⟨a87, c87, rfl, hcap87, _⟩ := hS.vecSlice (k := 4) (v := v87) rfl | obtain ⟨a87, c87, rfl, hcap87, _⟩ := hS.vecSlice (k := 5) (v := v87) rfl
        have hm28 : mks (o, bs ++ [Q.length]) = mks (o, bs) ++ [(P.length : Int)] := by simp [mks, hR.1]
        refine WL.nil ?_
        clear hH
        have hH : ∃ R, Sat B w J (blk gs ((st0.map (·.1) ++ [Value.slice ma (mks (o, bs)).length mc]) ++ rs) 68 :: blk b14 [.slice la P.length lc, .slice (some (ad gs 0)) (st0.length + 1) sc, .slice aa ats.length ac] 81 :: R) := ⟨_, ((hS.pick 1 rfl).pick 3 rfl)⟩
        refine And.intro (by intro _ _; exact hH) ?_
        refine WD.takeP (i := 21) rfl (by kernel_rfl) (by kernel_rfl) (by kernel_rfl) (fun w => (by first | exact .indexAddr (.of rfl) (.of rfl) (by omega) (by omega) Tryz.underlying79 Tryz.sizeOf68 | exact .indexAddrI (.of rfl) (.of rfl) (by omega) (by omega) Tryz.underlying79 Tryz.sizeOf68)) rfl ?_
        refine WD.branch [22] (by kernel_rfl) rfl (WO.cons rfl ?_ (WO.nil))
        refine WL.st1 hS (k := 3) rfl (.of rfl) (.of rfl) rfl Tryz.sizeOf68 (by rw [e28]; simp) ?_
        clear hS; intro w hS; try dsimp only [List.set] at hS
        rw [e28, show (st0.length : Int) = ((st0.map (·.1)).length : Int) by simp, set_last] at hS
        replace hS := hS.vecShut (k := 3) (n := st0.length + 1) (cap := sc) (size := 1) rfl hsc1 hsc2 (by simp) (by simpa using hsc4); try dsimp only [List.set] at hS
        replace hS := hS.push (k := 4) rfl; try dsimp only [List.set] at hS
        replace hS := hS.say (k := 4) (A' := rowsA 3 (st0 ++ [(.slice a87 ((mks (o, bs)).length + 1) c87, mks (o, bs ++ [Q.length]))])) rfl (fun h hh => by rw [hm28, rowsA, List.map_append]; simp only [List.map_cons, List.map_nil, List.length_append, List.length_singleton, List.map_append]; exact hh); try dsimp only [List.set] at hS
        refine WL.nil ?_
        refine And.intro (by intro h; cases h) ?_
        refine WD.done (by kernel_rfl) ?_
        refine WC.region ?_
        refine WL.val (.move (.of rfl)) rfl ?_
        refine WL.call Tryz.func37 rfl (evs_cons (.of rfl) (evs_cons (.of rfl) (evs_cons (.of rfl) evs_nil))) rfl (put_any _ P.length _ _ _ _ _ _ _ _ _ _ hS (by omega)) ?_
        clear hS
        rintro _ w ⟨rfl, lv2, hS⟩
        refine WL.nil ?_
        refine WC.region ?_
        refine WL.val (.move (.of rfl)) rfl ?_
        refine WL.val (.add (.of rfl) (.of rfl) ⟨by omega, by omega⟩) rfl ?_
        refine WL.val (.assign (.of rfl)) rfl ?_
        refine WL.nil ?_
        have e9 := hq
        rw [drop_at l (by omega), cmpGo_cons, if_neg (by omega), if_neg (by omega), if_neg (by omega), if_pos (by omega)] at e9
        simp only [] at e9
        have hx := hR.1
        refine ⟨(k + 1, (o, bs ++ [Q.length]) :: rest, st0 ++ [(.slice a87 ((mks (o, bs)).length + 1) c87, mks (o, bs ++ [Q.length]))], Q ++ [(5, 0, [])], P ++ [(5, 0, .slice none 0 0)], lv2, .slice (some (ad gs 0)) (st0.length + 1) sc, .slice aa ats.length ac, ats, J), ⟨rfl, rfl, rfl, trivial⟩, ⟨by omega, by rw [List.length_append]; simp; omega, ?_, by simpa using hlen4, by simpa using hats, ⟨?_, ?_, ?_, ?_, ?_⟩, hR.snoc _ _ _ _ (IntsI.nil _), hJ, e9, ?_⟩, by dsimp only; omega⟩
        ·simp [hst0]
        ·simp; omega
        ·rw [List.getElem?_append_left hf1]; exact hf2
        ·simp; omega
        ·intro b hb
         rcases List.mem_append.1 hb with hb | hb
         ·have := hf4 b hb; simp; omega
         ·simp at hb; subst hb; simp; omega
        ·exact hf5.grow (Nat.le_refl _) (by simp) fun i hi hq2 => by rw [List.getElem?_append_left (by omega)]; exact hq2
        ·simp only [List.length_append, List.flatMap_append, List.map_append, List.length_singleton, List.map_cons, List.map_nil]; exact hS
      ·
       have hc57 := hb57; try simp only [Gk.cs0] at hc57
       refine WC.region ?_
       refine WL.val (.eql (.of rfl) (.of rfl)) rfl ?_
       refine WL.val (.assign (.of rfl)) rfl ?_
       refine WL.nil ?_
       refine WC.cond rfl (fun hb57 => ?_) (fun hb57 => ?_)
       ·
        have hc57 := hb57; try simp only [Gk.cs0] at hc57
        refine WC.seq ?_
        refine WC.seq ?_
        refine WC.region ?_
        refine WL.val (.move (.of rfl)) rfl ?_
        refine WL.val (.eql (.of rfl) (.of rfl)) rfl ?_
        refine WL.nil ?_
        refine WC.cond rfl (fun hb61 => ?_) (fun hb61 => ?_)
        ·
         have hc61 := hb61; try simp only [Gk.cs0] at hc61
         refine WC.seq ?_
         refine WC.region ?_
         refine WL.val (.move (.of rfl)) rfl ?_
         refine WL.val (.assign (.of rfl)) rfl ?_
         refine WL.val (.assign (.of rfl)) rfl ?_
         refine WL.val (.assign (.of rfl)) rfl ?_
         refine WL.nil ?_
         refine WC.ret ?_
         refine ret3 Tryz.results18 rfl rfl rfl ?_
         obtain rfl : stk = [] := List.eq_nil_of_length_eq_zero (by omega)
         have e9 : cmp l = .error (10, (k : Int)) := by rw [← hq, drop_at l (by omega), cmpGo_cons, if_neg (by omega), if_neg (by omega), if_neg (by omega), if_neg (by omega), if_pos (by omega)]
         exact ⟨_, rfl, .inl ⟨_, _, J, e9, rfl, hJ, ((((hS.drop (k := 0) rfl).drop (k := 0) rfl).drop (k := 0) rfl).drop (k := 0) rfl).drop (k := 0) rfl⟩⟩
        ·
         have hc61 := hb61; try simp only [Gk.cs0] at hc61
         refine WC.skip ?_
         refine WC.seq ?_
         refine WC.seq ?_
         refine WC.region ?_
         refine WL.val (.move (.of rfl)) rfl ?_
         refine WL.val (.eql (.of rfl) (.of rfl)) rfl ?_
         refine WL.nil ?_
         refine WC.cond rfl (fun hb64 => ?_) (fun hb64 => by exfalso; simp only [Gk.cs0] at hb64; omega)
         have hc64 := hb64; try simp only [Gk.cs0] at hc64
         refine WC.seq ?_
         refine WC.region ?_
         refine WL.val (.move (.of rfl)) rfl ?_
         obtain ⟨o, bs, rest, rfl⟩ : ∃ o bs rest, stk = (o, bs) :: rest := by
          cases stk with
          | nil => exfalso; have : st.length = 0 := hst2; omega
          | cons f r => exact ⟨f.1, f.2, r, rfl⟩
         obtain ⟨st0, mv, rfl, hst0⟩ := stk_snoc hst
         obtain ⟨hf1, hf2, hf3, hf4, hf5⟩ := id hF
         simp only [List.map_append, List.map_cons, List.map_nil, List.length_append, List.length_singleton] at hS
         have hl0 : st0.length + 1 = rest.length + 1 := by simpa using hst2
         have hats2 : ats.length = rest.length + 1 := by simpa using hats
         have hlen5 : rest.length + 1 ≤ 4 := by simpa using hlen4
         refine WL.call Tryz.func40 rfl (evs_cons (.of rfl) evs_nil) rfl (close_any _ _ _ _ mv P Q st0 o bs ats _ _ _ _ hS hR (fun b hb => by have := hf4 b hb; have hx := hR.1; omega) (by have hx := hR.1; omega) 4 0 (hR.nil_of hf2) hf2 (by have hx := hR.1; omega) (by omega) (by omega) (by omega)) ?_
         clear hS
         rintro _ w ⟨rfl, lv2, sv2, av2, P2, J2, hJ2, hR2, hS⟩
         refine WL.nil ?_
         refine WC.exit ?_
         refine WC.region ?_
         refine WL.val (.move (.of rfl)) rfl ?_
         refine WL.val (.add (.of rfl) (.of rfl) ⟨by omega, by omega⟩) rfl ?_
         refine WL.val (.assign (.of rfl)) rfl ?_
         refine WL.nil ?_
         have e9 := hq
         rw [drop_at l (by omega), cmpGo_cons, if_neg (by omega), if_neg (by omega), if_neg (by omega), if_neg (by omega), if_pos (by omega)] at e9
         simp only [] at e9
         have hx := hR.1
         refine ⟨(k + 1, rest, st0, closeGo Q.length o Q [] bs ++ [(6, 0, [])], P2, lv2, sv2, av2, ats.take rest.length, J2), ⟨rfl, rfl, rfl, trivial⟩, ⟨by omega, by rw [List.length_append, closeGo_len]; simp; omega, hst0, by simp at hlen4; omega, by simp at hats; simp; omega, hF.close _, by rw [hx] at hR2; exact hR2, hJ.trans hJ2, e9, ?_⟩, by dsimp only; omega⟩
         have e5 : (ats.take rest.length).length = st0.length := by simp at hats; rw [List.length_take]; omega
         have e6 : rest.length = st0.length := by omega
         rw [e5, e6]; exact hS
       ·
        have hc57 := hb57; try simp only [Gk.cs0] at hc57
        refine WC.seq ?_
        refine WC.region ?_
        refine WL.val (.eql (.of rfl) (.of rfl)) rfl ?_
        refine WL.val (.assign (.of rfl)) rfl ?_
        refine WL.nil ?_
        refine WC.cond rfl (fun hb91 => ?_) (fun hb91 => ?_)
        ·
         have hc91 := hb91; try simp only [Gk.cs0] at hc91
         refine WC.seq ?_
         refine WC.seq ?_
         refine WC.region ?_
         refine WL.val (.move (.of rfl)) rfl ?_
         refine WL.val (.add (.of rfl) (.of rfl) ⟨by omega, by omega⟩) rfl ?_
         refine WL.val (.move (.of rfl)) rfl ?_
         refine WL.val (.len (.of rfl) Tryz.underlying9) rfl ?_
         refine WL.val (.eql (.of rfl) (.of rfl)) rfl ?_
         refine WL.nil ?_
         refine WC.cond rfl (fun hb97 => ?_) (fun hb97 => ?_)
         ·
          have hc97 := hb97; try simp only [Gk.cs0] at hc97
          refine WC.seq ?_
          refine WC.region ?_
          refine WL.val (.move (.of rfl)) rfl ?_
          refine WL.val (.assign (.of rfl)) rfl ?_
          refine WL.val (.assign (.of rfl)) rfl ?_
          refine WL.val (.assign (.of rfl)) rfl ?_
          refine WL.nil ?_
          refine WC.ret ?_
          refine ret3 Tryz.results18 rfl rfl rfl ?_
          have e9 : cmp l = .error (10, (k : Int)) := by rw [← hq, drop_at l (by omega), cmpGo_cons, if_neg (by omega), if_neg (by omega), if_neg (by omega), if_neg (by omega), if_neg (by omega), if_pos (by omega), List.drop_of_length_le (by omega)]
          exact ⟨_, rfl, .inl ⟨_, _, J, e9, rfl, hJ, ((((hS.drop (k := 0) rfl).drop (k := 0) rfl).drop (k := 0) rfl).drop (k := 0) rfl).drop (k := 0) rfl⟩⟩
         ·
          have hc97 := hb97; try simp only [Gk.cs0] at hc97
          refine WC.skip ?_
          refine WC.seq ?_
          refine WC.region ?_
          refine WL.val (.move (.of rfl)) rfl ?_
          refine WL.val (.add (.of rfl) (.of rfl) ⟨by omega, by omega⟩) rfl ?_
          refine WL.val (.assign (.of rfl)) rfl ?_
          refine WL.nil ?_
          refine WC.region ?_
          refine WL.val (.move (.of rfl)) rfl ?_
          refine WL.val (.move (.of rfl)) rfl ?_
          refine WL.val (.move (.of rfl)) rfl ?_
          refine WL.val (.index (.of rfl) (.of rfl) (by omega) (by omega) Tryz.underlying9) rfl ?_
          refine WL.call Tryz.func37 rfl (evs_cons (.of rfl) (evs_cons (.of rfl) (evs_cons (.of rfl) evs_nil))) rfl (put_any _ P.length _ _ _ _ _ _ _ _ _ _ hS (by omega)) ?_
          clear hS
          rintro _ w ⟨rfl, lv2, hS⟩
          refine WL.nil ?_
          refine WC.region ?_
          refine WL.val (.move (.of rfl)) rfl ?_
          refine WL.val (.add (.of rfl) (.of rfl) ⟨by omega, by omega⟩) rfl ?_
          refine WL.val (.assign (.of rfl)) rfl ?_
          refine WL.nil ?_
          have e9 := hq
          rw [drop_at l (by omega), cmpGo_cons, if_neg (by omega), if_neg (by omega), if_neg (by omega), if_neg (by omega), if_neg (by omega), if_pos (by omega), drop_at l (k := k + 1) (by omega)] at e9
          simp only [] at e9
          refine ⟨(k + 2, stk, st, Q ++ [(0, ((at_ l ((k : Int) + 1)).toNat : Int), [])], P ++ [(0, ((at_ l ((k : Int) + 1)).toNat : Int), .slice none 0 0)], lv2, .slice sa st.length sc, .slice aa ats.length ac, ats, J), ⟨rfl, rfl, rfl, trivial⟩, ⟨by omega, by rw [List.length_append]; simp; omega, hst, hlen4, hats, hF.app _, hR.snoc _ _ _ _ (IntsI.nil _), hJ, e9, ?_⟩, by dsimp only; omega⟩
          rw [List.length_append, List.flatMap_append]; exact hS
        ·
         have hc91 := hb91; try simp only [Gk.cs0] at hc91
         refine WC.region ?_
         refine WL.val (.move (.of rfl)) rfl ?_
         refine WL.val (.move (.of rfl)) rfl ?_
         refine WL.call Tryz.func37 rfl (evs_cons (.of rfl) (evs_cons (.of rfl) (evs_cons (.of rfl) evs_nil))) rfl (put_any _ P.length _ _ _ _ _ _ _ _ _ _ hS (by omega)) ?_
         clear hS
         rintro _ w ⟨rfl, lv2, hS⟩
         refine WL.nil ?_
         refine WC.region ?_
         refine WL.val (.move (.of rfl)) rfl ?_
         refine WL.val (.add (.of rfl) (.of rfl) ⟨by omega, by omega⟩) rfl ?_
         refine WL.val (.assign (.of rfl)) rfl ?_
         refine WL.nil ?_
         have e9 := hq
         rw [drop_at l (by omega), cmpGo_cons, if_neg (by omega), if_neg (by omega), if_neg (by omega), if_neg (by omega), if_neg (by omega), if_neg (by omega)] at e9
         refine ⟨(k + 1, stk, st, Q ++ [(0, ((at_ l (k : Int)).toNat : Int), [])], P ++ [(0, ((at_ l (k : Int)).toNat : Int), .slice none 0 0)], lv2, .slice sa st.length sc, .slice aa ats.length ac, ats, J), ⟨rfl, rfl, rfl, trivial⟩, ⟨by omega, by rw [List.length_append]; simp; omega, hst, hlen4, hats, hF.app _, hR.snoc _ _ _ _ (IntsI.nil _), hJ, e9, ?_⟩, by dsimp only; omega⟩
         rw [List.length_append, List.flatMap_append]; exact hS
  ·
   have hc18 := hb18; try simp only [Gk.cs0] at hc18
   refine WC.exit ?_
   refine WC.seq ?_
   refine WC.seq ?_
   refine WC.region ?_
   refine WL.val (.move (.of rfl)) rfl ?_
   refine WL.val (.nilCheck (.of rfl)) rfl ?_
   first | refine WL.val (.fieldAddr 2 (.of rfl) Tryz.underlying81 rfl rfl Tryz.sizeOf68 rfl) rfl ?_ | refine WL.val (.fieldAddrI 2 (.of rfl) Tryz.underlying81 rfl rfl Tryz.sizeOf68 rfl) rfl ?_
   first | refine WL.val (.ld (.of rfl) hS (k := 0) rfl Tryz.isAgg68 rfl) rfl ?_ | refine WL.val (.ld (.of rfl) hS (k := 1) rfl Tryz.isAgg68 rfl) rfl ?_ | refine WL.val (.ld (.of rfl) hS (k := 2) rfl Tryz.isAgg68 rfl) rfl ?_ | refine WL.val (.ld (.of rfl) hS (k := 3) rfl Tryz.isAgg68 rfl) rfl ?_ | refine WL.val (.ld (.of rfl) hS (k := 4) rfl Tryz.isAgg68 rfl) rfl ?_
   refine WL.val (.lenSlice (.of rfl) Tryz.underlying68) rfl ?_
   refine WL.val (.assign (.of rfl)) rfl ?_
   refine WL.nil ?_
   refine WC.seq ?_
   refine WC.region ?_
   refine WL.val (.move (.of rfl)) rfl ?_
   refine WL.val (.gtr (.of rfl) (.of rfl)) rfl ?_
   refine WL.nil ?_
   refine WC.cond rfl (fun hb112 => ?_) (fun hb112 => ?_)
   ·
    have hc112 := hb112; try simp only [Gk.cs0] at hc112
    refine WC.seq ?_
    obtain ⟨b8, c8, r, hv8, _, _, _, _, hS⟩ := hS.vecOpen (k := 3) rfl (by omega)
    injection hv8 with hv8 _ hv9; subst hv8; subst hv9; try dsimp only [List.set] at hS
    refine WC.quiet (by kernel_rfl) (by kernel_rfl) hS ?_
    refine WQ.val (fun w hS => (.move (.of rfl))) rfl ?_
    refine WQ.val (fun w hS => (.nilCheck (.of rfl))) rfl ?_
    refine WQ.val (fun w hS => (by first | exact .fieldAddr 2 (.of rfl) Tryz.underlying81 rfl rfl Tryz.sizeOf68 rfl | exact .fieldAddrI 2 (.of rfl) Tryz.underlying81 rfl rfl Tryz.sizeOf68 rfl)) rfl ?_
    refine WQ.val (fun w hS => (by first | exact (.ld (.of rfl) hS (k := 0) rfl Tryz.isAgg68 rfl) | exact (.ld (.of rfl) hS (k := 1) rfl Tryz.isAgg68 rfl) | exact (.ld (.of rfl) hS (k := 2) rfl Tryz.isAgg68 rfl) | exact (.ld (.of rfl) hS (k := 3) rfl Tryz.isAgg68 rfl) | exact (.ld (.of rfl) hS (k := 4) rfl Tryz.isAgg68 rfl))) rfl ?_
    refine WQ.val (fun w hS => (.move (.of rfl))) rfl ?_
    refine WQ.val (fun w hS => (.sub (.of rfl) (.of rfl) ⟨by omega, by omega⟩)) rfl ?_
    refine WQ.val (fun w hS => (by first | exact .indexAddr (.of rfl) (.of rfl) (by omega) (by omega) Tryz.underlying68 Tryz.sizeOf3 | exact .indexAddrI (.of rfl) (.of rfl) (by omega) (by omega) Tryz.underlying68 Tryz.sizeOf3)) rfl ?_
    refine WQ.val (fun w hS => .ldE I64 ats 0 r (.of rfl) hS (k := 3) rfl rfl Tryz.isAgg3 (by omega) (by omega)) rfl ?_
    refine WQ.val (fun w hS => (.assign (.of rfl))) rfl ?_
    refine WQ.val (fun w hS => (.assign (.of rfl))) rfl ?_
    refine WQ.val (fun w hS => (.assign (.of rfl))) rfl ?_
    refine WQ.nil ?_
    clear hS; intro w hS
    refine WC.ret ?_
    refine ret3 Tryz.results18 rfl rfl rfl ?_
    have e9 : cmp l = .error (23, ats.getD ((ats.length : Int) - 1).toNat 0) := by rw [← hq, show ((ats.length : Int) - 1).toNat = ats.length - 1 by omega, List.drop_of_length_le (by omega), cmpGo_nil, if_pos (by omega)]
    exact ⟨_, rfl, .inl ⟨_, _, J, e9, rfl, hJ, ((((hS.drop (k := 0) rfl).drop (k := 0) rfl).drop (k := 0) rfl).drop (k := 0) rfl).drop (k := 0) rfl⟩⟩
   ·
    have hc112 := hb112; try simp only [Gk.cs0] at hc112
    refine WC.skip ?_
    refine WC.seq ?_
    refine WC.region ?_
    refine WL.val (.move (.of rfl)) rfl ?_
    refine WL.call Tryz.func37 rfl (evs_cons (.of rfl) (evs_cons (.of rfl) (evs_cons (.of rfl) evs_nil))) rfl (put_any _ P.length _ _ _ _ _ _ _ _ _ _ hS (by omega)) ?_
    clear hS
    rintro _ w ⟨rfl, lv2, hS⟩
    refine WL.nil ?_
    refine WC.seq ?_
    obtain ⟨a9, c9, rfl, hcap9, _⟩ := hS.vecSlice (k := 1) rfl
    refine WC.region ?_
    refine WL.val (.move (.of rfl)) rfl ?_
    refine WL.val (.nilCheck (.of rfl)) rfl ?_
    first | refine WL.val (.fieldAddr 0 (.of rfl) Tryz.underlying81 rfl rfl Tryz.sizeOf78 rfl) rfl ?_ | refine WL.val (.fieldAddrI 0 (.of rfl) Tryz.underlying81 rfl rfl Tryz.sizeOf78 rfl) rfl ?_
    first | refine WL.val (.ld (.of rfl) hS (k := 0) rfl Tryz.isAgg78 rfl) rfl ?_ | refine WL.val (.ld (.of rfl) hS (k := 1) rfl Tryz.isAgg78 rfl) rfl ?_ | refine WL.val (.ld (.of rfl) hS (k := 2) rfl Tryz.isAgg78 rfl) rfl ?_ | refine WL.val (.ld (.of rfl) hS (k := 3) rfl Tryz.isAgg78 rfl) rfl ?_ | refine WL.val (.ld (.of rfl) hS (k := 4) rfl Tryz.isAgg78 rfl) rfl ?_
    refine WL.val (.move (.of rfl)) rfl ?_
    refine WL.val (.len (.of rfl) Tryz.underlying9) rfl ?_
    refine WL.val (.build (cs := [_, _]) (parts_cons (.of rfl) (parts_cons (.of rfl) parts_nil)) bld86_18 rfl) rfl ?_
    refine WL.boxA (cs := [_, _]) hS (.of rfl) rfl ?_
    clear hS; intro b130 w hS
    refine WL.val (.assign (.of rfl)) rfl ?_
    refine WL.val (.assign (.of rfl)) rfl ?_
    refine WL.val (.assign (.of rfl)) rfl ?_
    refine WL.nil ?_
    refine WC.ret ?_
    refine ret3 Tryz.results18 rfl rfl rfl ?_
    have e9 : cmp l = .ok (Q ++ [(7, 0, [])]) := by rw [← hq, List.drop_of_length_le (by omega), cmpGo_nil, if_neg (by omega)]
    obtain ⟨J2, hJ2, hrs, hS⟩ := hS.freezeVec (k := 2) rfl; try dsimp only [List.eraseIdx] at hS
    obtain ⟨J3, hJ3, hb9, hS⟩ := hS.freeze (k := 0) rfl; try dsimp only [List.eraseIdx] at hS
    refine ⟨_, rfl, .inr ⟨_, _, J3, e9, rfl, (hJ.trans hJ2).trans hJ3, ⟨a9, c9, P ++ [(7, 0, .slice none 0 0)], ?_, ?_, ?_, ?_⟩, (((hS.drop (k := 0) rfl).drop (k := 0) rfl).drop (k := 0) rfl).drop (k := 0) rfl⟩⟩
    ·refine ⟨rfl, _, _, _, hb9, fun j u hj => ?_⟩
     rw [List.length_append] at hj
     simpa using hj
    ·simpa using hcap9
    ·rw [List.length_append, List.flatMap_append]; exact hrs.mono hJ3
    ·exact ((hR.snoc _ _ _ _ (IntsI.nil _)).mono hJ2).mono hJ3
end Go.Proofs.YtchgkcbloeoopaaGreatDoor
namespace Pat
set_option linter.unusedVariables false
set_option linter.unusedSimpArgs false
open Go Gk
def skips (k : Int) : Bool := (((k == 2) || (k == 3)) || (k == 4)) || (k == 6)
def addP (Q : List Pl) : Nat → List Bool → Nat → List Bool
 | 0, set, _ => set
 | f + 1, set, i => bif set.getD i false then set else
   bif skips (Q.getD i (7, 0, [])).1 then addP Q f ((Q.getD i (7, 0, [])).2.2.foldl (fun s t => addP Q f s t.toNat) (set.set i true)) (i + 1)
   else (Q.getD i (7, 0, [])).2.2.foldl (fun s t => addP Q f s t.toNat) (set.set i true)
def unset (s : List Bool) : Nat := s.countP (fun b => !b)
def SubB (s t : List Bool) : Prop := s.length = t.length ∧ ∀ i : Nat, s.getD i false = true → t.getD i false = true
theorem SubB.refl (s : List Bool) : SubB s s := ⟨rfl, fun _ h => h⟩
theorem SubB.trans {s t u : List Bool} (h : SubB s t) (k : SubB t u) : SubB s u := ⟨h.1.trans k.1, fun i hi => k.2 i (h.2 i hi)⟩
theorem SubB.set (s : List Bool) (i : Nat) : SubB s (s.set i true) := by
 refine ⟨by simp, fun j hj => ?_⟩
 rw [List.getD_eq_getElem?_getD] at hj ⊢
 rw [List.getElem?_set]
 by_cases e : i = j
 ·subst e
  have hlt : i < s.length := by
   apply Classical.byContradiction
   intro hn
   rw [List.getElem?_eq_none (by omega)] at hj
   cases hj
  simp [hlt]
 ·simpa [e] using hj
theorem unset_le : ∀ {s t : List Bool}, SubB s t → unset t ≤ unset s
 | [], [], _ => Nat.le_refl _
 | [], _ :: _, h => by cases h.1
 | _ :: _, [], h => by cases h.1
 | a :: s, b :: t, h => by
  have h1 : SubB s t := ⟨by simpa using h.1, fun i hi => by have := h.2 (i + 1) (by simpa using hi); simpa using this⟩
  have h2 := unset_le h1
  have h3 := h.2 0
  unfold unset at h2 ⊢
  cases a <;> cases b <;> simp_all <;> omega
theorem unset_set : ∀ {s : List Bool} {i : Nat}, i < s.length → s.getD i false = false → unset (s.set i true) + 1 = unset s
 | [], _, h, _ => by simp at h
 | a :: s, 0, _, h => by simp at h; subst h; simp [unset]
 | a :: s, i + 1, h, h2 => by
  have := unset_set (s := s) (i := i) (by simpa using h) (by simpa using h2)
  unfold unset at this ⊢
  cases a <;> simp_all
theorem addP_sub (Q : List Pl) : ∀ (f : Nat) (s : List Bool) (i : Nat), SubB s (addP Q f s i)
 | 0, s, _ => SubB.refl s
 | f + 1, s, i => by
  have fold : ∀ (l : List Int) (s : List Bool), SubB s (l.foldl (fun s t => addP Q f s t.toNat) s) := by
   intro l
   induction l with
   | nil => intro s; exact SubB.refl s
   | cons x l ih => intro s; exact (addP_sub Q f s x.toNat).trans (ih _)
  rw [addP]
  cases s.getD i false
  ·cases skips (Q.getD i (7, 0, [])).1
   ·exact (SubB.set s i).trans (fold _ _)
   ·exact ((SubB.set s i).trans (fold _ _)).trans (addP_sub Q f _ _)
  ·exact SubB.refl s
theorem fold_sub (Q : List Pl) (f : Nat) : ∀ (l : List Int) (s : List Bool), SubB s (l.foldl (fun s t => addP Q f s t.toNat) s)
 | [], s => SubB.refl s
 | x :: l, s => (addP_sub Q f s x.toNat).trans (fold_sub Q f l _)
def WF (Q : List Pl) : Prop := ∀ (i : Nat) (q : Pl), Q[i]? = some q → (∀ t ∈ q.2.2, 0 ≤ t ∧ t < (Q.length : Int)) ∧ (skips q.1 = true → i + 1 < Q.length) ∧ (0 ≤ q.1 ∧ q.1 ≤ 7) ∧ (q.1 ≠ 7 → i + 1 < Q.length) ∧ q.2.2.length ≤ Q.length
theorem take_fold {α β : Type} (f : β → α → β) (b : β) (l : List α) (k : Nat) (d : α) (h : k < l.length) : (l.take (k + 1)).foldl f b = f ((l.take k).foldl f b) (l.getD k d) := by
 rw [List.take_succ_eq_append_getElem h, List.foldl_append]
 simp [List.getD_eq_getElem?_getD, h]
theorem WF.at_ {Q : List Pl} (h : WF Q) {i : Nat} (hi : i < Q.length) : (∀ t ∈ (Q.getD i (7, 0, [])).2.2, 0 ≤ t ∧ t < (Q.length : Int)) ∧ (skips (Q.getD i (7, 0, [])).1 = true → i + 1 < Q.length) ∧ (0 ≤ (Q.getD i (7, 0, [])).1 ∧ (Q.getD i (7, 0, [])).1 ≤ 7) ∧ ((Q.getD i (7, 0, [])).1 ≠ 7 → i + 1 < Q.length) ∧ (Q.getD i (7, 0, [])).2.2.length ≤ Q.length := by
 have e : Q[i]? = some (Q.getD i (7, 0, [])) := by simp [List.getD_eq_getElem?_getD, hi]
 exact h i _ e
def fitsP (k c : Int) (b : UInt8) : Bool := bif k == 0 then c == (b.toNat : Int) else bif (k == 1) || (k == 3) then (b.toNat : Int) != 47 else k == 2
def runAt (Q : List Pl) (F : Nat) (c : UInt8) (now : List Bool) (st : List Bool × Bool × Nat) (k : Nat) : List Bool × Bool × Nat :=
 bif now.getD k false then
  bif fitsP (Q.getD k (7, 0, [])).1 (Q.getD k (7, 0, [])).2.1 c then
   (addP Q F st.1 (bif ((Q.getD k (7, 0, [])).1 == 2) || ((Q.getD k (7, 0, [])).1 == 3) then k else k + 1), true, st.2.2 + 1)
  else (st.1, st.2.1, st.2.2 + 1)
 else st
def runB (Q : List Pl) (F : Nat) (c : UInt8) (now : List Bool) (steps : Nat) : List Bool × Bool × Nat := iter (runAt Q F c now) (List.replicate Q.length false, false, steps) Q.length
def runS (Q : List Pl) (F : Nat) : List UInt8 → List Bool → Nat → List Bool × Nat
 | [], now, st => (now, st)
 | c :: r, now, st => bif (runB Q F c now st).2.1 then runS Q F r (runB Q F c now st).1 (runB Q F c now st).2.2 else ((runB Q F c now st).1, (runB Q F c now st).2.2)
def run (Q : List Pl) (l : List UInt8) : List Bool × Nat := runS Q (Q.length + 1) l (addP Q (Q.length + 1) (List.replicate Q.length false) 0) 1
theorem runAt_steps (Q : List Pl) (F : Nat) (c : UInt8) (now : List Bool) (st : List Bool × Bool × Nat) (k : Nat) : st.2.2 ≤ (runAt Q F c now st k).2.2 ∧ (runAt Q F c now st k).2.2 ≤ st.2.2 + 1 := by
 unfold runAt
 cases now.getD k false <;> cases fitsP (Q.getD k (7, 0, [])).1 (Q.getD k (7, 0, [])).2.1 c <;> simp
theorem runAt_len (Q : List Pl) (F : Nat) (c : UInt8) (now : List Bool) (st : List Bool × Bool × Nat) (k : Nat) : (runAt Q F c now st k).1.length = st.1.length := by
 unfold runAt
 cases now.getD k false <;> cases fitsP (Q.getD k (7, 0, [])).1 (Q.getD k (7, 0, [])).2.1 c <;> simp
 exact (addP_sub Q F _ _).1.symm
theorem runIter_facts (Q : List Pl) (F : Nat) (c : UInt8) (now : List Bool) (st : List Bool × Bool × Nat) : ∀ k, (iter (runAt Q F c now) st k).1.length = st.1.length ∧ st.2.2 ≤ (iter (runAt Q F c now) st k).2.2 ∧ (iter (runAt Q F c now) st k).2.2 ≤ st.2.2 + k
 | 0 => ⟨rfl, Nat.le_refl _, Nat.le_refl _⟩
 | k + 1 => by
  have h := runIter_facts Q F c now st k
  have h1 := runAt_steps Q F c now (iter (runAt Q F c now) st k) k
  have h2 := runAt_len Q F c now (iter (runAt Q F c now) st k) k
  rw [iter]
  omega
theorem At.sub {I : Im} {p : Addr} {vs us : List Value} (h : At I p vs) (hu : ∀ (j : Nat) (v : Value), us[j]? = some v → vs[j]? = some v) : At I p us := by
 obtain ⟨h1, arr, E, fr, h2, h3⟩ := h
 exact ⟨h1, arr, E, fr, h2, fun j v hj => h3 j v (hu j v hj)⟩
theorem At.place {I : Im} {la : Addr} {P : List Cell3} {i : Nat} {x : Cell3} (h : At I la (P.flatMap enc)) (hx : P[i]? = some x) : At I (la.add (i * 3)) [.int .u8 x.1, .int .u8 x.2.1, x.2.2] := by
 refine At.sub (h.add (i * 3)) fun j v hj => ?_
 have hl : j < 3 := by have := (List.getElem?_eq_some_iff.1 hj).1; simpa using this
 rw [List.getElem?_drop]
 have := flat_get enc 3 enc_len P [] i j x hx hl
 rw [List.append_nil] at this
 rw [this]; exact hj
theorem PatI.opened {I : Im} {p : Addr} {Q : List Pl} {n : Nat} (h : PatI I p Q n) (hQ : 0 < Q.length) : ∃ la c P, At I p [.slice (some la) Q.length c, I64 n] ∧ At I la (P.flatMap enc) ∧ RelP I P Q := by
 obtain ⟨a, c, P, h1, h2, h3, h4⟩ := h
 obtain ⟨la, rfl, h5⟩ := h3.2 (by rw [h4.1]; exact hQ)
 exact ⟨la, c, P, by rw [← h4.1]; exact h1, h5, h4⟩
theorem RelP.at_ {I : Im} {P : List Cell3} {Q : List Pl} (h : RelP I P Q) {i : Nat} (hi : i < Q.length) : ∃ xa xc, P[i]? = some ((Q.getD i (7, 0, [])).1, (Q.getD i (7, 0, [])).2.1, .slice xa (Q.getD i (7, 0, [])).2.2.length xc) ∧ ∃ xp, 0 < (Q.getD i (7, 0, [])).2.2.length → xa = some xp ∧ At I xp ((Q.getD i (7, 0, [])).2.2.map I64) := by
 have e : Q[i]? = some (Q.getD i (7, 0, [])) := by simp [List.getD_eq_getElem?_getD, hi]
 obtain ⟨⟨p1, p2, p3⟩, hp⟩ : ∃ p, P[i]? = some p := ⟨_, List.getElem?_eq_getElem (by rw [h.1]; exact hi)⟩
 obtain ⟨a, b, _, xa, xc, h1, _, h2⟩ := h.2 i _ _ hp e
 simp only at a b h1
 subst a; subst b; subst h1
 refine ⟨xa, xc, hp, ?_⟩
 by_cases h0 : 0 < (Q.getD i (7, 0, [])).2.2.length
 ·obtain ⟨xp, rfl, h3⟩ := h2.2 h0
  exact ⟨xp, fun _ => ⟨rfl, h3⟩⟩
 ·exact ⟨ad 0 0, fun h => absurd h h0⟩
end Pat
namespace Go.Proofs.YtchgkcbloeoopaaGreatDoor
open Gk Pat
set_option linter.unusedVariables false
set_option linter.unusedSimpArgs false
theorem getD_mem {l : List Int} {k : Nat} (h : k < l.length) : l.getD k 0 ∈ l := by
 rw [List.getD_eq_getElem?_getD, List.getElem?_eq_getElem h]; exact List.getElem_mem h
theorem unset_len (l : List Bool) : unset l ≤ l.length := List.countP_le_length
theorem info4_60 : Tryz.prog.info? 4 = some Tryz.t4 := by kernel_rfl
set_option maxHeartbeats 800000 in
theorem add_any (Q : List Pl) (p : Addr) (nn n : Nat) (hW : WF Q) (hn : Q.length = n) (hn2 : n ≤ 100000) : ∀ (f : Nat) (set : List Bool) (i : Int) (b c : Nat) (r : List Value) (B w : World) (I : Im) (As : List Assn),
  Sat B w I (blk b (set.map Value.bool ++ r) 4 :: As) → PatI I p Q nn → set.length = n → 0 ≤ i → i < n → unset set < f →
  Calls Tryz.prog 60 [.pointer (some p), .slice (some (ad b 0)) n c, I64 i].toArray w (Ret fun v w' => v = .tuple #[] ∧ Sat B w' I (blk b ((addP Q f set i.toNat).map Value.bool ++ r) 4 :: As)) := by
 intro f
 induction f with
 | zero => intros; omega
 | succ f ih =>
  intro set i b c r B w I As hS hp hset hi0 hi1 hf
  refine calls Tryz.func60 rfl Tryz.ntmps60 rfl ?_
  refine WC.seq ?_
  refine WC.seq ?_
  refine WC.region ?_
  refine WL.val (.move (.of rfl)) rfl ?_
  refine WL.val (.move (.of rfl)) rfl ?_
  first | refine WL.val (.indexAddr (.of rfl) (.of rfl) (by omega) (by omega) Tryz.underlying97 Tryz.sizeOf4) rfl ?_ | refine WL.val (.indexAddrI (.of rfl) (.of rfl) (by omega) (by omega) Tryz.underlying97 Tryz.sizeOf4) rfl ?_
  refine WL.val (.ldE .bool set false r (.of rfl) hS (k := 0) rfl rfl Tryz.isAgg4 (by omega) (by omega)) rfl ?_
  refine WL.nil ?_
  refine WC.cond rfl (fun hb12 => ?_) (fun hb12 => ?_)
  ·
   have hc12 := hb12; try simp only [Gk.cs0] at hc12
   refine WC.ret ?_
   refine ret0 Tryz.results60 ?_
   exact ⟨_, rfl, rfl, by rw [addP, hb12]; exact hS⟩
  ·
   have hc12 := hb12; try simp only [Gk.cs0] at hc12
   refine WC.skip ?_
   refine WC.seq ?_
   refine WC.region ?_
   refine WL.val (.move (.of rfl)) rfl ?_
   refine WL.val (.move (.of rfl)) rfl ?_
   first | refine WL.val (.indexAddr (.of rfl) (.of rfl) (by omega) (by omega) Tryz.underlying97 Tryz.sizeOf4) rfl ?_ | refine WL.val (.indexAddrI (.of rfl) (.of rfl) (by omega) (by omega) Tryz.underlying97 Tryz.sizeOf4) rfl ?_
   refine WL.stE .bool set r (u := true) hS (k := 0) rfl (.of rfl) (.of rfl) rfl rfl Tryz.sizeOf4 (by omega) (by omega) ?_
   clear hS; intro w hS; dsimp only [List.set] at hS
   refine WL.nil ?_
   refine WC.seq ?_
   obtain ⟨la, lc, P, hpA, hlA, hR⟩ := hp.opened (by omega)
   obtain ⟨xa, xc, hx, xp, hxp⟩ := hR.at_ (i := i.toNat) (by omega)
   have hus := unset_set (s := set) (i := i.toNat) (by omega) hb12
   have hto := (hW.at_ (i := i.toNat) (by omega)).2.2.2.2
   refine WC.region ?_
   refine WL.val (.move (.of rfl)) rfl ?_
   refine WL.val (.nilCheck (.of rfl)) rfl ?_
   first | refine WL.val (.fieldAddr 0 (.of rfl) Tryz.underlying86 rfl rfl Tryz.sizeOf78 rfl) rfl ?_ | refine WL.val (.fieldAddrI 0 (.of rfl) Tryz.underlying86 rfl rfl Tryz.sizeOf78 rfl) rfl ?_
   refine WL.val (.ldI (.of rfl) hS hpA Tryz.isAgg78 rfl) rfl ?_
   refine WL.val (.move (.of rfl)) rfl ?_
   first | refine WL.val (.indexAddr (.of rfl) (.of rfl) (by omega) (by omega) Tryz.underlying78 Tryz.sizeOf99) rfl ?_ | refine WL.val (.indexAddrI (.of rfl) (.of rfl) (by omega) (by omega) Tryz.underlying78 Tryz.sizeOf99) rfl ?_
   refine WL.val (.ldsI (us := [_, _, _]) (.of rfl) hS (Pat.At.place hlA hx) Tryz.isAgg99 Tryz.sizeOf99 rfl (fun _ _ h => h)) rfl ?_
   refine WL.allocA (cs := [_, _, _]) hS Tryz.zeroValue99 rfl ?_
   clear hS; intro b6 w hS
   first | refine WL.stA hS (k := 0) rfl (.of rfl) (.of rfl) rfl Tryz.sizeOf99 rfl (by simp) ?_ | refine WL.stA hS (k := 1) rfl (.of rfl) (.of rfl) rfl Tryz.sizeOf99 rfl (by simp) ?_
   clear hS; intro w hS; try dsimp only [List.set] at hS
   refine WL.nil ?_
   refine WC.seq ?_
   refine WC.seq ?_
   refine WC.region ?_
   first | refine WL.val (.fieldAddr 2 (.of rfl) Tryz.underlying99 rfl rfl Tryz.sizeOf68 rfl) rfl ?_ | refine WL.val (.fieldAddrI 2 (.of rfl) Tryz.underlying99 rfl rfl Tryz.sizeOf68 rfl) rfl ?_
   first | refine WL.val (.ld (.of rfl) hS (k := 0) rfl Tryz.isAgg68 rfl) rfl ?_ | refine WL.val (.ld (.of rfl) hS (k := 1) rfl Tryz.isAgg68 rfl) rfl ?_
   refine WL.val (.lenSlice (.of rfl) Tryz.underlying68) rfl ?_
   refine WL.val (.move (.of rfl)) rfl ?_
   refine WL.nil ?_
   refine WC.block ?_
   refine WC.loop (σ := Nat) (fun k => [(0, .pointer (some p)), (1, .slice (some (ad b 0)) n c), (2, I64 i), (6, ptr b6 0), (24, .slice xa (Q.getD i.toNat (7, 0, [])).2.2.length xc), (25, I64 (Q.getD i.toNat (7, 0, [])).2.2.length), (26, I64 (k : Nat))]) (fun k w => k ≤ (Q.getD i.toNat (7, 0, [])).2.2.length ∧ Sat B w I (blk b6 [.int .u8 (Q.getD i.toNat (7, 0, [])).1, .int .u8 (Q.getD i.toNat (7, 0, [])).2.1, .slice xa (Q.getD i.toNat (7, 0, [])).2.2.length xc] 99 :: blk b ((((Q.getD i.toNat (7, 0, [])).2.2.take k).foldl (fun s t => addP Q f s t.toNat) (set.set i.toNat true)).map Value.bool ++ r) 4 :: As)) (fun k => (Q.getD i.toNat (7, 0, [])).2.2.length - k) 0 ⟨rfl, rfl, rfl, rfl, rfl, rfl, rfl, trivial⟩ ⟨Nat.zero_le _, hS⟩ ?_
   rintro k w ⟨hk, hS⟩
   change WC _ _ _ _ [(0, .pointer (some p)), (1, .slice (some (ad b 0)) n c), (2, I64 i), (6, ptr b6 0), (24, .slice xa (Q.getD i.toNat (7, 0, [])).2.2.length xc), (25, I64 (Q.getD i.toNat (7, 0, [])).2.2.length), (26, I64 (k : Nat))] w
   have hsub := fold_sub Q f ((Q.getD i.toNat (7, 0, [])).2.2.take k) (set.set i.toNat true)
   obtain ⟨S1, hS1⟩ : ∃ S1, S1 = ((Q.getD i.toNat (7, 0, [])).2.2.take k).foldl (fun s t => addP Q f s t.toNat) (set.set i.toNat true) := ⟨_, rfl⟩
   rw [← hS1] at hS hsub
   refine WC.seq ?_
   refine WC.region ?_
   refine WL.val (.lss (.of rfl) (.of rfl)) rfl ?_
   refine WL.nil ?_
   refine WC.seq ?_
   refine WC.cond rfl (fun hb27 => ?_) (fun hb27 => ?_)
   ·
    have hc27 := hb27; try simp only [Gk.cs0] at hc27
    refine WC.skip ?_
    refine WC.seq ?_
    refine WC.block ?_
    refine WC.seq ?_
    obtain ⟨hxp1, hxA⟩ := hxp (by omega)
    rw [hxp1] at hS ⊢
    refine WC.region ?_
    first | refine WL.val (.indexAddr (.of rfl) (.of rfl) (by omega) (by omega) Tryz.underlying68 Tryz.sizeOf3) rfl ?_ | refine WL.val (.indexAddrI (.of rfl) (.of rfl) (by omega) (by omega) Tryz.underlying68 Tryz.sizeOf3) rfl ?_
    refine WL.val (.ldEI I64 (Q.getD i.toNat (7, 0, [])).2.2 0 (.of rfl) hS hxA rfl Tryz.isAgg3 (by omega) (by omega)) rfl ?_
    refine WL.val (.assign (.of rfl)) rfl ?_
    refine WL.nil ?_
    refine WC.region ?_
    refine WL.val (.move (.of rfl)) rfl ?_
    refine WL.val (.move (.of rfl)) rfl ?_
    refine WL.val (.move (.of rfl)) rfl ?_
    replace hS := hS.pick 1 rfl; try dsimp only [List.eraseIdx] at hS
    have ht := (hW.at_ (i := i.toNat) (by omega)).1 ((Q.getD i.toNat (7, 0, [])).2.2.getD k 0) (getD_mem (by omega))
    refine WL.call Tryz.func60 rfl (evs_cons (.of rfl) (evs_cons (.of rfl) (evs_cons (.of rfl) evs_nil))) rfl (ih S1 ((Q.getD i.toNat (7, 0, [])).2.2.getD k 0) b c r B w I _ hS hp (by have := hsub.1; simp at this; omega) ht.1 (by omega) (by have := unset_le hsub; omega)) ?_
    clear hS
    rintro _ w ⟨rfl, hS⟩
    replace hS := hS.pick 1 rfl; try dsimp only [List.eraseIdx] at hS
    refine WL.nil ?_
    refine WC.region ?_
    refine WL.val (.add (.of rfl) (.of rfl) ⟨by omega, by omega⟩) rfl ?_
    refine WL.val (.move (.of rfl)) rfl ?_
    refine WL.nil ?_
    refine ⟨k + 1, ⟨rfl, rfl, rfl, rfl, rfl, rfl, rfl, trivial⟩, ⟨by omega, ?_⟩, by omega⟩
    rw [take_fold _ _ _ _ 0 (by omega), ← hS1]; exact hS
   ·
    have hc27 := hb27; try simp only [Gk.cs0] at hc27
    refine WC.exit ?_
    refine WC.seq ?_
    refine WC.region ?_
    first | refine WL.val (.fieldAddr 0 (.of rfl) Tryz.underlying99 rfl rfl Tryz.sizeOf5 rfl) rfl ?_ | refine WL.val (.fieldAddrI 0 (.of rfl) Tryz.underlying99 rfl rfl Tryz.sizeOf5 rfl) rfl ?_
    first | refine WL.val (.ld (.of rfl) hS (k := 0) rfl Tryz.isAgg5 rfl) rfl ?_ | refine WL.val (.ld (.of rfl) hS (k := 1) rfl Tryz.isAgg5 rfl) rfl ?_
    refine WL.val (.eql (.of rfl) (.of rfl)) rfl ?_
    refine WL.val (.move (.of rfl)) rfl ?_
    refine WL.gval rfl rfl (fun hg1 => (by first | exact .fieldAddr 0 (.of rfl) Tryz.underlying99 rfl rfl Tryz.sizeOf5 rfl | exact .fieldAddrI 0 (.of rfl) Tryz.underlying99 rfl rfl Tryz.sizeOf5 rfl)) rfl ?_
    refine WL.gval rfl rfl (fun hg1 => (by first | exact (.ld (.gd hg1 rfl) hS (k := 0) rfl Tryz.isAgg5 rfl) | exact (.ld (.gd hg1 rfl) hS (k := 1) rfl Tryz.isAgg5 rfl))) rfl ?_
    refine WL.gval rfl rfl (fun hg1 => (.eql (.gd hg1 rfl) (.of rfl))) rfl ?_
    refine WL.val (.por (.of rfl) (.of rfl) (.of rfl)) rfl ?_
    refine WL.val (.move (.of rfl)) rfl ?_
    refine WL.gval rfl rfl (fun hg1 => (by first | exact .fieldAddr 0 (.of rfl) Tryz.underlying99 rfl rfl Tryz.sizeOf5 rfl | exact .fieldAddrI 0 (.of rfl) Tryz.underlying99 rfl rfl Tryz.sizeOf5 rfl)) rfl ?_
    refine WL.gval rfl rfl (fun hg1 => (by first | exact (.ld (.gd hg1 rfl) hS (k := 0) rfl Tryz.isAgg5 rfl) | exact (.ld (.gd hg1 rfl) hS (k := 1) rfl Tryz.isAgg5 rfl))) rfl ?_
    refine WL.gval rfl rfl (fun hg1 => (.eql (.gd hg1 rfl) (.of rfl))) rfl ?_
    refine WL.val (.por (.of rfl) (.of rfl) (.of rfl)) rfl ?_
    refine WL.val (.move (.of rfl)) rfl ?_
    refine WL.gval rfl rfl (fun hg1 => (by first | exact .fieldAddr 0 (.of rfl) Tryz.underlying99 rfl rfl Tryz.sizeOf5 rfl | exact .fieldAddrI 0 (.of rfl) Tryz.underlying99 rfl rfl Tryz.sizeOf5 rfl)) rfl ?_
    refine WL.gval rfl rfl (fun hg1 => (by first | exact (.ld (.gd hg1 rfl) hS (k := 0) rfl Tryz.isAgg5 rfl) | exact (.ld (.gd hg1 rfl) hS (k := 1) rfl Tryz.isAgg5 rfl))) rfl ?_
    refine WL.gval rfl rfl (fun hg1 => (.eql (.gd hg1 rfl) (.of rfl))) rfl ?_
    refine WL.val (.por (.of rfl) (.of rfl) (.of rfl)) rfl ?_
    refine WL.nil ?_
    refine WC.cond rfl (fun hb52 => ?_) (fun hb52 => ?_)
    ·
     have hc52 := hb52; try simp only [Gk.cs0] at hc52
     refine WC.region ?_
     refine WL.val (.move (.of rfl)) rfl ?_
     refine WL.val (.move (.of rfl)) rfl ?_
     refine WL.val (.move (.of rfl)) rfl ?_
     refine WL.val (.add (.of rfl) (.of rfl) ⟨by omega, by omega⟩) rfl ?_
     replace hS := hS.drop (k := 0) rfl; try dsimp only [List.eraseIdx] at hS
     rw [List.take_of_length_le (by omega)] at hS1
     have hsk : skips (Q.getD i.toNat (7, 0, [])).1 = true := hb52
     have hnx := (hW.at_ (i := i.toNat) (by omega)).2.1 hsk
     refine WL.call Tryz.func60 rfl (evs_cons (.of rfl) (evs_cons (.of rfl) (evs_cons (.of rfl) evs_nil))) rfl (ih S1 (i + 1) b c r B w I _ hS hp (by have := hsub.1; simp at this; omega) (by omega) (by omega) (by have := unset_le hsub; omega)) ?_
     clear hS
     rintro _ w ⟨rfl, hS⟩
     refine WL.nil ?_
     refine end0 Tryz.results60 ?_
     refine ⟨_, rfl, rfl, ?_⟩
     rw [addP, hc12, hsk]; simp only [cond_true, cond_false]; rw [← hS1]; rw [show (i + 1).toNat = i.toNat + 1 by omega] at hS; exact hS
    ·
     have hc52 := hb52; try simp only [Gk.cs0] at hc52
     refine WC.skip ?_
     refine end0 Tryz.results60 ?_
     have hsk : skips (Q.getD i.toNat (7, 0, [])).1 = false := hb52
     replace hS := hS.drop (k := 0) rfl; try dsimp only [List.eraseIdx] at hS
     rw [List.take_of_length_le (by omega)] at hS1
     refine ⟨_, rfl, rfl, ?_⟩
     rw [addP, hc12, hsk]; simp only [cond_true, cond_false]; rw [← hS1]; exact hS
theorem fits_any (k c : Int) (b : UInt8) (v : Value) (B w : World) (I : Im) (As : List Assn) (hS : Sat B w I As) :
  Calls Tryz.prog 61 [.agg [.int .u8 k, .int .u8 c, v].toArray, U8 b.toNat].toArray w (Ret fun v w' => v = .bool (fitsP k c b) ∧ Sat B w' I As) := by
 refine calls Tryz.func61 rfl Tryz.ntmps61 rfl ?_
 refine WC.seq ?_
 refine WC.region ?_
 refine WL.boxA (cs := [_, _, _]) hS (.of rfl) rfl ?_
 clear hS; intro b2 w hS
 refine WL.val (.assign (.of rfl)) rfl ?_
 refine WL.nil ?_
 refine WC.seq ?_
 refine WC.seq ?_
 refine WC.region ?_
 first | refine WL.val (.fieldAddr 0 (.of rfl) Tryz.underlying99 rfl rfl Tryz.sizeOf5 rfl) rfl ?_ | refine WL.val (.fieldAddrI 0 (.of rfl) Tryz.underlying99 rfl rfl Tryz.sizeOf5 rfl) rfl ?_
 first | refine WL.val (.ld (.of rfl) hS (k := 0) rfl Tryz.isAgg5 rfl) rfl ?_
 refine WL.nil ?_
 refine WC.block ?_
 refine WC.seq ?_
 refine WC.region ?_
 refine WL.val (.eql (.of rfl) (.of rfl)) rfl ?_
 refine WL.val (.assign (.of rfl)) rfl ?_
 refine WL.nil ?_
 refine WC.cond rfl (fun hb7 => ?_) (fun hb7 => ?_)
 ·
  have hc7 := hb7; try simp only [Gk.cs0] at hc7
  refine WC.seq ?_
  refine WC.region ?_
  first | refine WL.val (.fieldAddr 1 (.of rfl) Tryz.underlying99 rfl rfl Tryz.sizeOf5 rfl) rfl ?_ | refine WL.val (.fieldAddrI 1 (.of rfl) Tryz.underlying99 rfl rfl Tryz.sizeOf5 rfl) rfl ?_
  first | refine WL.val (.ld (.of rfl) hS (k := 0) rfl Tryz.isAgg5 rfl) rfl ?_
  refine WL.val (.move (.of rfl)) rfl ?_
  refine WL.val (.eql (.of rfl) (.of rfl)) rfl ?_
  refine WL.val (.assign (.of rfl)) rfl ?_
  refine WL.nil ?_
  refine WC.ret ?_
  refine ret1 Tryz.results61 rfl ?_
  exact ⟨_, rfl, by rw [fitsP, hb7]; rfl, hS.drop (k := 0) rfl⟩
 ·
  have hc7 := hb7; try simp only [Gk.cs0] at hc7
  refine WC.seq ?_
  refine WC.seq ?_
  refine WC.region ?_
  refine WL.val (.eql (.of rfl) (.of rfl)) rfl ?_
  refine WL.val (.assign (.of rfl)) rfl ?_
  refine WL.nil ?_
  refine WC.cond rfl (fun hb13 => ?_) (fun hb13 => ?_)
  ·
   have hc13 := hb13; try simp only [Gk.cs0] at hc13
   refine WC.skip ?_
   refine WC.cond rfl (fun hb13 => ?_) (fun hb13 => ?_)
   ·
    have hc13 := hb13; try simp only [Gk.cs0] at hc13
    refine WC.seq ?_
    refine WC.region ?_
    refine WL.val (.move (.of rfl)) rfl ?_
    refine WL.val (.neq (.of rfl) (.of rfl)) rfl ?_
    refine WL.val (.assign (.of rfl)) rfl ?_
    refine WL.nil ?_
    refine WC.ret ?_
    refine ret1 Tryz.results61 rfl ?_
    exact ⟨_, rfl, by rw [fitsP, hb7, hb13]; rfl, hS.drop (k := 0) rfl⟩
   ·
    have hc13 := hb13; try simp only [Gk.cs0] at hc13
    refine WC.skip ?_
    refine WC.seq ?_
    refine WC.region ?_
    first | refine WL.val (.fieldAddr 0 (.of rfl) Tryz.underlying99 rfl rfl Tryz.sizeOf5 rfl) rfl ?_ | refine WL.val (.fieldAddrI 0 (.of rfl) Tryz.underlying99 rfl rfl Tryz.sizeOf5 rfl) rfl ?_
    first | refine WL.val (.ld (.of rfl) hS (k := 0) rfl Tryz.isAgg5 rfl) rfl ?_
    refine WL.val (.eql (.of rfl) (.of rfl)) rfl ?_
    refine WL.val (.assign (.of rfl)) rfl ?_
    refine WL.nil ?_
    refine WC.ret ?_
    refine ret1 Tryz.results61 rfl ?_
    exfalso; simp_all
  ·
   have hc13 := hb13; try simp only [Gk.cs0] at hc13
   refine WC.region ?_
   refine WL.val (.eql (.of rfl) (.of rfl)) rfl ?_
   refine WL.val (.assign (.of rfl)) rfl ?_
   refine WL.nil ?_
   refine WC.cond rfl (fun hb13 => ?_) (fun hb13 => ?_)
   ·
    have hc13 := hb13; try simp only [Gk.cs0] at hc13
    refine WC.seq ?_
    refine WC.region ?_
    refine WL.val (.move (.of rfl)) rfl ?_
    refine WL.val (.neq (.of rfl) (.of rfl)) rfl ?_
    refine WL.val (.assign (.of rfl)) rfl ?_
    refine WL.nil ?_
    refine WC.ret ?_
    refine ret1 Tryz.results61 rfl ?_
    exact ⟨_, rfl, by rw [fitsP, hb7, show (k == 1) = false by assumption, hb13]; rfl, hS.drop (k := 0) rfl⟩
   ·
    have hc13 := hb13; try simp only [Gk.cs0] at hc13
    refine WC.skip ?_
    refine WC.seq ?_
    refine WC.region ?_
    first | refine WL.val (.fieldAddr 0 (.of rfl) Tryz.underlying99 rfl rfl Tryz.sizeOf5 rfl) rfl ?_ | refine WL.val (.fieldAddrI 0 (.of rfl) Tryz.underlying99 rfl rfl Tryz.sizeOf5 rfl) rfl ?_
    first | refine WL.val (.ld (.of rfl) hS (k := 0) rfl Tryz.isAgg5 rfl) rfl ?_
    refine WL.val (.eql (.of rfl) (.of rfl)) rfl ?_
    refine WL.val (.assign (.of rfl)) rfl ?_
    refine WL.nil ?_
    refine WC.ret ?_
    refine ret1 Tryz.results61 rfl ?_
    exact ⟨_, rfl, by rw [fitsP, hb7, show (k == 1) = false by assumption, hb13]; rfl, hS.drop (k := 0) rfl⟩
set_option maxHeartbeats 1600000 in
theorem run_any (Q : List Pl) (p : Addr) (nn : Nat) (s : List UInt8) (hW : WF Q) (hQ : 0 < Q.length) (hn2 : Q.length ≤ 1000) (hnn : nn ≤ 1000) (hs : s.length ≤ 1000000) (B w : World) (I : Im) (As : List Assn) (hS : Sat B w I As) (hp : PatI I p Q nn) :
  Calls Tryz.prog 41 [.pointer (some p), S s].toArray w (Ret fun v w' => v = .tuple #[.bool ((Pat.run Q s).1.getD (Q.length - 1) false), I64 (min ((Pat.run Q s).2 : Int) (((nn : Int) + 1) * ((s.length : Int) + 1)))] ∧ Sat B w' I As) := by
 refine calls Tryz.func41 rfl Tryz.ntmps41 rfl ?_
 refine WC.seq ?_
 refine WC.region ?_
 refine WL.val (.assign (.of rfl)) rfl ?_
 refine WL.val (.assign (.of rfl)) rfl ?_
 refine WL.nil ?_
 refine WC.scope ?_
 refine WC.seq ?_
 obtain ⟨la, lc, P, hpA, hlA, hR⟩ := hp.opened (by omega)
 refine WC.region ?_
 refine WL.val (.move (.of rfl)) rfl ?_
 refine WL.val (.nilCheck (.of rfl)) rfl ?_
 first | refine WL.val (.fieldAddr 0 (.of rfl) Tryz.underlying86 rfl rfl Tryz.sizeOf78 rfl) rfl ?_ | refine WL.val (.fieldAddrI 0 (.of rfl) Tryz.underlying86 rfl rfl Tryz.sizeOf78 rfl) rfl ?_
 refine WL.val (.ldI (.of rfl) hS hpA Tryz.isAgg78 rfl) rfl ?_
 refine WL.val (.lenSlice (.of rfl) Tryz.underlying78) rfl ?_
 refine WL.make (l := Q.length) hS (.of rfl) (.of rfl) Tryz.underlying97 info4_60 rfl (by simp [Tryz.t4] <;> omega) (by omega) rfl rfl rfl ?_
 clear hS; intro b19 w hS
 refine WL.val (.assign (.of rfl)) rfl ?_
 refine WL.val (.assign (.of rfl)) rfl ?_
 refine WL.nil ?_
 refine WC.seq ?_
 refine WC.region ?_
 refine WL.val (.move (.of rfl)) rfl ?_
 refine WL.val (.move (.of rfl)) rfl ?_
 have hun := unset_len (List.replicate Q.length false)
 rw [List.length_replicate] at hun
 replace hS : Sat B w I (blk b19 ((List.replicate Q.length false).map Value.bool ++ []) 4 :: As) := by rw [List.map_replicate, List.append_nil]; exact hS
 refine WL.call Tryz.func60 rfl (evs_cons (.of rfl) (evs_cons (.of rfl) (evs_cons (.of rfl) evs_nil))) rfl (add_any Q p nn Q.length hW rfl (by omega) (Q.length + 1) (List.replicate Q.length false) 0 b19 _ [] B w I As hS hp (by simp) (by omega) (by omega) (by omega)) ?_
 clear hS
 rintro _ w ⟨rfl, hS⟩
 refine WL.nil ?_
 refine WC.seq ?_
 refine WC.label ?_
 refine WC.cutS (σ := List Bool × Nat × Nat) (fun ⟨now, steps, bn⟩ => [(0, .pointer (some p)), (1, S s), (6, .slice (some (ad bn 0)) Q.length Q.length), (7, I64 (steps : Nat))]) (fun ⟨now, steps, bn⟩ w => now.length = Q.length ∧ (now, steps) = Pat.run Q s ∧ Sat B w I (blk bn (now.map Value.bool ++ []) 4 :: As)) ?_ ?_
 ·
  refine WC.seq ?_
  refine WC.region ?_
  refine WL.val (.move (.of rfl)) rfl ?_
  refine WL.val (.len (.of rfl) Tryz.underlying9) rfl ?_
  refine WL.val (.move (.of rfl)) rfl ?_
  refine WL.nil ?_
  refine WC.block ?_
  refine WC.loop (σ := List Bool × Nat × Nat × Nat) (fun ⟨now, steps0, bn, i⟩ => [(0, .pointer (some p)), (1, S s), (6, .slice (some (ad bn 0)) Q.length Q.length), (7, I64 (steps0 : Nat)), (24, I64 s.length), (25, I64 (i : Nat))]) (fun ⟨now, steps0, bn, i⟩ w => i ≤ s.length ∧ now.length = Q.length ∧ steps0 ≤ 1 + i * 1000 ∧ runS Q (Q.length + 1) (s.drop i) now steps0 = Pat.run Q s ∧ Sat B w I (blk bn (now.map Value.bool ++ []) 4 :: As)) (fun ⟨now, steps0, bn, i⟩ => s.length - i) (addP Q (Q.length + 1) (List.replicate Q.length false) 0, 1, b19, 0) ⟨rfl, rfl, rfl, rfl, rfl, rfl, trivial⟩ ⟨Nat.zero_le _, by rw [← (addP_sub Q _ _ _).1]; simp, by omega, rfl, hS⟩ ?_
  rintro ⟨now, steps0, bn, i⟩ w ⟨hi, hnow, hsteps, hrun, hS⟩
  change WC _ _ _ _ [(0, .pointer (some p)), (1, S s), (6, .slice (some (ad bn 0)) Q.length Q.length), (7, I64 (steps0 : Nat)), (24, I64 s.length), (25, I64 (i : Nat))] w
  have hit0 := runIter_facts Q (Q.length + 1) (at_ s (i : Int)) now (List.replicate Q.length false, false, steps0)
  refine WC.seq ?_
  refine WC.region ?_
  refine WL.val (.lss (.of rfl) (.of rfl)) rfl ?_
  refine WL.nil ?_
  refine WC.seq ?_
  refine WC.cond rfl (fun hb26 => ?_) (fun hb26 => ?_)
  ·
   have hc26 := hb26; try simp only [Gk.cs0] at hc26
   refine WC.skip ?_
   refine WC.seq ?_
   refine WC.block ?_
   refine WC.seq ?_
   refine WC.region ?_
   refine WL.val (.move (.of rfl)) rfl ?_
   refine WL.val (.assign (.of rfl)) rfl ?_
   refine WL.nil ?_
   refine WC.seq ?_
   refine WC.region ?_
   refine WL.val (.move (.of rfl)) rfl ?_
   refine WL.val (.nilCheck (.of rfl)) rfl ?_
   first | refine WL.val (.fieldAddr 0 (.of rfl) Tryz.underlying86 rfl rfl Tryz.sizeOf78 rfl) rfl ?_ | refine WL.val (.fieldAddrI 0 (.of rfl) Tryz.underlying86 rfl rfl Tryz.sizeOf78 rfl) rfl ?_
   refine WL.val (.ldI (.of rfl) hS hpA Tryz.isAgg78 rfl) rfl ?_
   refine WL.val (.lenSlice (.of rfl) Tryz.underlying78) rfl ?_
   refine WL.make (l := Q.length) hS (.of rfl) (.of rfl) Tryz.underlying97 info4_60 rfl (by simp [Tryz.t4] <;> omega) (by omega) rfl rfl rfl ?_
   clear hS; intro b33 w hS
   refine WL.val (.assign (.of rfl)) rfl ?_
   refine WL.val (.assign (.of rfl)) rfl ?_
   refine WL.nil ?_
   refine WC.seq ?_
   refine WC.seq ?_
   refine WC.region ?_
   refine WL.val (.move (.of rfl)) rfl ?_
   refine WL.val (.lenSlice (.of rfl) Tryz.underlying97) rfl ?_
   refine WL.val (.move (.of rfl)) rfl ?_
   refine WL.nil ?_
   refine WC.block ?_
   refine WC.loop (σ := List Bool × Bool × Nat × Nat) (fun ⟨next, any, steps, k⟩ => [(0, .pointer (some p)), (1, S s), (7, I64 (steps : Nat)), (8, I64 (i : Nat)), (9, .slice (some (ad b33 0)) Q.length Q.length), (10, .bool any), (24, I64 s.length), (25, I64 (i : Nat)), (34, .slice (some (ad bn 0)) Q.length Q.length), (35, I64 Q.length), (36, I64 (k : Nat))]) (fun ⟨next, any, steps, k⟩ w => k ≤ Q.length ∧ iter (runAt Q (Q.length + 1) (at_ s (i : Int)) now) (List.replicate Q.length false, false, steps0) k = (next, any, steps) ∧ Sat B w I (blk b33 (next.map Value.bool ++ []) 4 :: blk bn (now.map Value.bool ++ []) 4 :: As)) (fun ⟨next, any, steps, k⟩ => Q.length - k) (List.replicate Q.length false, false, steps0, 0) ⟨rfl, rfl, rfl, rfl, rfl, rfl, rfl, rfl, rfl, rfl, rfl, trivial⟩ ⟨Nat.zero_le _, rfl, by rw [List.map_replicate, List.append_nil]; exact hS⟩ ?_
   rintro ⟨next, any, steps, k⟩ w ⟨hk, hit, hS⟩
   change WC _ _ _ _ [(0, .pointer (some p)), (1, S s), (7, I64 (steps : Nat)), (8, I64 (i : Nat)), (9, .slice (some (ad b33 0)) Q.length Q.length), (10, .bool any), (24, I64 s.length), (25, I64 (i : Nat)), (34, .slice (some (ad bn 0)) Q.length Q.length), (35, I64 Q.length), (36, I64 (k : Nat))] w
   have hit1 := hit0 k
   rw [hit] at hit1; simp only [List.length_replicate] at hit1
   refine WC.seq ?_
   refine WC.region ?_
   refine WL.val (.lss (.of rfl) (.of rfl)) rfl ?_
   refine WL.nil ?_
   refine WC.seq ?_
   refine WC.cond rfl (fun hb37 => ?_) (fun hb37 => ?_)
   ·
    have hc37 := hb37; try simp only [Gk.cs0] at hc37
    refine WC.skip ?_
    refine WC.seq ?_
    refine WC.block ?_
    refine WC.seq ?_
    refine WC.region ?_
    refine WL.val (.move (.of rfl)) rfl ?_
    first | refine WL.val (.indexAddr (.of rfl) (.of rfl) (by omega) (by omega) Tryz.underlying97 Tryz.sizeOf4) rfl ?_ | refine WL.val (.indexAddrI (.of rfl) (.of rfl) (by omega) (by omega) Tryz.underlying97 Tryz.sizeOf4) rfl ?_
    refine WL.val (.ldE .bool now false [] (.of rfl) hS (k := 1) rfl rfl Tryz.isAgg4 (by omega) (by omega)) rfl ?_
    refine WL.val (.assign (.of rfl)) rfl ?_
    refine WL.val (.assign (.of rfl)) rfl ?_
    refine WL.nil ?_
    refine WC.seq ?_
    refine WC.seq ?_
    refine WC.region ?_
    refine WL.val (.move (.of rfl)) rfl ?_
    refine WL.val (.not (.of rfl)) rfl ?_
    refine WL.nil ?_
    refine WC.cond rfl (fun hb42 => ?_) (fun hb42 => ?_)
    ·
     have hc42 := hb42; try simp only [Gk.cs0] at hc42
     refine WC.exit ?_
     refine WC.region ?_
     refine WL.val (.add (.of rfl) (.of rfl) ⟨by omega, by omega⟩) rfl ?_
     refine WL.val (.move (.of rfl)) rfl ?_
     refine WL.nil ?_
     have hb42x : now.getD k false = false := by simpa using hb42
     have e9 : runAt Q (Q.length + 1) (at_ s (i : Int)) now (next, any, steps) k = (next, any, steps) := by rw [runAt, hb42x]; rfl
     refine ⟨(next, any, steps, k + 1), ⟨rfl, rfl, rfl, rfl, rfl, rfl, rfl, rfl, rfl, rfl, rfl, trivial⟩, ⟨by omega, by rw [iter, hit, e9], hS⟩, by dsimp only; omega⟩
    ·
     have hc42 := hb42; try simp only [Gk.cs0] at hc42
     refine WC.skip ?_
     refine WC.seq ?_
     refine WC.region ?_
     refine WL.val (.move (.of rfl)) rfl ?_
     refine WL.val (.add (.of rfl) (.of rfl) ⟨by omega, by omega⟩) rfl ?_
     refine WL.val (.assign (.of rfl)) rfl ?_
     refine WL.nil ?_
     refine WC.seq ?_
     have hnk : now.getD k false = true := by simpa using hb42
     obtain ⟨xa, xc, hx, _⟩ := hR.at_ (i := k) (by omega)
     refine WC.region ?_
     refine WL.val (.move (.of rfl)) rfl ?_
     refine WL.val (.nilCheck (.of rfl)) rfl ?_
     first | refine WL.val (.fieldAddr 0 (.of rfl) Tryz.underlying86 rfl rfl Tryz.sizeOf78 rfl) rfl ?_ | refine WL.val (.fieldAddrI 0 (.of rfl) Tryz.underlying86 rfl rfl Tryz.sizeOf78 rfl) rfl ?_
     refine WL.val (.ldI (.of rfl) hS hpA Tryz.isAgg78 rfl) rfl ?_
     refine WL.val (.move (.of rfl)) rfl ?_
     first | refine WL.val (.indexAddr (.of rfl) (.of rfl) (by omega) (by omega) Tryz.underlying78 Tryz.sizeOf99) rfl ?_ | refine WL.val (.indexAddrI (.of rfl) (.of rfl) (by omega) (by omega) Tryz.underlying78 Tryz.sizeOf99) rfl ?_
     refine WL.val (.ldsI (us := [_, _, _]) (.of rfl) hS (Pat.At.place hlA hx) Tryz.isAgg99 Tryz.sizeOf99 rfl (fun _ _ h => h)) rfl ?_
     refine WL.allocA (cs := [_, _, _]) hS Tryz.zeroValue99 rfl ?_
     clear hS; intro b13 w hS
     first | refine WL.stA hS (k := 0) rfl (.of rfl) (.of rfl) rfl Tryz.sizeOf99 rfl (by simp) ?_ | refine WL.stA hS (k := 1) rfl (.of rfl) (.of rfl) rfl Tryz.sizeOf99 rfl (by simp) ?_ | refine WL.stA hS (k := 2) rfl (.of rfl) (.of rfl) rfl Tryz.sizeOf99 rfl (by simp) ?_
     clear hS; intro w hS; try dsimp only [List.set] at hS
     refine WL.nil ?_
     refine WC.seq ?_
     refine WC.seq ?_
     refine WC.quiet (by kernel_rfl) (by kernel_rfl) hS ?_
     refine WQ.val (fun w hS => .lds (vs := [.int .u8 (Q.getD k (7, 0, [])).1, .int .u8 (Q.getD k (7, 0, [])).2.1, .slice xa (Q.getD k (7, 0, [])).2.2.length xc]) (.of rfl) hS (k := 0) rfl Tryz.isAgg99 Tryz.sizeOf99 rfl (fun j v h => by simpa using h)) rfl ?_
     refine WQ.val (fun w hS => (.move (.of rfl))) rfl ?_
     refine WQ.val (fun w hS => (.move (.of rfl))) rfl ?_
     refine WQ.val (fun w hS => (.index (.of rfl) (.of rfl) (by omega) (by omega) Tryz.underlying9)) rfl ?_
     refine WQ.call Tryz.func61 rfl (evs_cons (.of rfl) (evs_cons (.of rfl) evs_nil)) rfl (fun w hS => fits_any _ _ _ _ _ _ _ _ hS) ?_
     refine WQ.val (fun w hS => (.not (.of rfl))) rfl ?_
     refine WQ.nil ?_
     clear hS; intro w hS
     refine WC.cond rfl (fun hb57 => ?_) (fun hb57 => ?_)
     ·
      have hc57 := hb57; try simp only [Gk.cs0] at hc57
      refine WC.exit ?_
      refine WC.region ?_
      refine WL.val (.add (.of rfl) (.of rfl) ⟨by omega, by omega⟩) rfl ?_
      refine WL.val (.move (.of rfl)) rfl ?_
      refine WL.nil ?_
      have hnk : now.getD k false = true := by simpa using hb42
      have hfk : fitsP (Q.getD k (7, 0, [])).1 (Q.getD k (7, 0, [])).2.1 (at_ s (i : Int)) = false := by simpa using hb57
      replace hS := hS.drop (k := 0) rfl; try dsimp only [List.eraseIdx] at hS
      have e9 : runAt Q (Q.length + 1) (at_ s (i : Int)) now (next, any, steps) k = (next, any, steps + 1) := by rw [runAt, hnk, hfk]; rfl
      refine ⟨(next, any, steps + 1, k + 1), ⟨rfl, rfl, rfl, rfl, rfl, rfl, rfl, rfl, rfl, rfl, rfl, trivial⟩, ⟨by omega, by rw [iter, hit, e9], hS⟩, by dsimp only; omega⟩
     ·
      have hc57 := hb57; try simp only [Gk.cs0] at hc57
      refine WC.skip ?_
      refine WC.seq ?_
      refine WC.region ?_
      refine WL.val (.assign (.of rfl)) rfl ?_
      refine WL.nil ?_
      refine WC.seq ?_
      refine WC.region ?_
      first | refine WL.val (.fieldAddr 0 (.of rfl) Tryz.underlying99 rfl rfl Tryz.sizeOf5 rfl) rfl ?_ | refine WL.val (.fieldAddrI 0 (.of rfl) Tryz.underlying99 rfl rfl Tryz.sizeOf5 rfl) rfl ?_
      first | refine WL.val (.ld (.of rfl) hS (k := 0) rfl Tryz.isAgg5 rfl) rfl ?_ | refine WL.val (.ld (.of rfl) hS (k := 1) rfl Tryz.isAgg5 rfl) rfl ?_ | refine WL.val (.ld (.of rfl) hS (k := 2) rfl Tryz.isAgg5 rfl) rfl ?_
      refine WL.val (.eql (.of rfl) (.of rfl)) rfl ?_
      refine WL.val (.move (.of rfl)) rfl ?_
      refine WL.gval rfl rfl (fun hg1 => (by first | exact .fieldAddr 0 (.of rfl) Tryz.underlying99 rfl rfl Tryz.sizeOf5 rfl | exact .fieldAddrI 0 (.of rfl) Tryz.underlying99 rfl rfl Tryz.sizeOf5 rfl)) rfl ?_
      refine WL.gval rfl rfl (fun hg1 => (by first | exact (.ld (.gd hg1 rfl) hS (k := 0) rfl Tryz.isAgg5 rfl) | exact (.ld (.gd hg1 rfl) hS (k := 1) rfl Tryz.isAgg5 rfl) | exact (.ld (.gd hg1 rfl) hS (k := 2) rfl Tryz.isAgg5 rfl))) rfl ?_
      refine WL.gval rfl rfl (fun hg1 => (.eql (.gd hg1 rfl) (.of rfl))) rfl ?_
      refine WL.val (.por (.of rfl) (.of rfl) (.of rfl)) rfl ?_
      refine WL.nil ?_
      refine WC.cond rfl (fun hb65 => ?_) (fun hb65 => ?_)
      ·
       have hc65 := hb65; try simp only [Gk.cs0] at hc65
       refine WC.region ?_
       refine WL.val (.move (.of rfl)) rfl ?_
       refine WL.val (.move (.of rfl)) rfl ?_
       refine WL.val (.move (.of rfl)) rfl ?_
       have hfk : fitsP (Q.getD k (7, 0, [])).1 (Q.getD k (7, 0, [])).2.1 (at_ s (i : Int)) = true := by simpa using hb57
       replace hS := hS.pick 1 rfl; try dsimp only [List.eraseIdx] at hS
       have hun := unset_len next
       refine WL.call Tryz.func60 rfl (evs_cons (.of rfl) (evs_cons (.of rfl) (evs_cons (.of rfl) evs_nil))) rfl (add_any Q p nn Q.length hW rfl (by omega) (Q.length + 1) next k b33 _ [] B w I _ hS hp (by omega) (by omega) (by omega) (by omega)) ?_
       clear hS
       rintro _ w ⟨rfl, hS⟩
       refine WL.nil ?_
       refine WC.region ?_
       refine WL.val (.add (.of rfl) (.of rfl) ⟨by omega, by omega⟩) rfl ?_
       refine WL.val (.move (.of rfl)) rfl ?_
       refine WL.nil ?_
       have hst : ((Q.getD k (7, 0, [])).1 == 2 || (Q.getD k (7, 0, [])).1 == 3) = true := hb65
       replace hS := hS.drop (k := 1) rfl; try dsimp only [List.eraseIdx] at hS
       have e9 : runAt Q (Q.length + 1) (at_ s (i : Int)) now (next, any, steps) k = (addP Q (Q.length + 1) next k, true, steps + 1) := by rw [runAt, hnk, hfk, hst]; rfl
       refine ⟨(addP Q (Q.length + 1) next k, true, steps + 1, k + 1), ⟨rfl, rfl, rfl, rfl, rfl, rfl, rfl, rfl, rfl, rfl, rfl, trivial⟩, ⟨by omega, by rw [iter, hit, e9], hS⟩, by dsimp only; omega⟩
      ·
       have hc65 := hb65; try simp only [Gk.cs0] at hc65
       refine WC.region ?_
       refine WL.val (.move (.of rfl)) rfl ?_
       refine WL.val (.move (.of rfl)) rfl ?_
       refine WL.val (.move (.of rfl)) rfl ?_
       refine WL.val (.add (.of rfl) (.of rfl) ⟨by omega, by omega⟩) rfl ?_
       have hfk : fitsP (Q.getD k (7, 0, [])).1 (Q.getD k (7, 0, [])).2.1 (at_ s (i : Int)) = true := by simpa using hb57
       have hk7 := (hW.at_ (i := k) (by omega)).2.2.2.1 (fun e => by rw [e, fitsP] at hfk; simp at hfk)
       replace hS := hS.pick 1 rfl; try dsimp only [List.eraseIdx] at hS
       have hun := unset_len next
       refine WL.call Tryz.func60 rfl (evs_cons (.of rfl) (evs_cons (.of rfl) (evs_cons (.of rfl) evs_nil))) rfl (add_any Q p nn Q.length hW rfl (by omega) (Q.length + 1) next (k + 1) b33 _ [] B w I _ hS hp (by omega) (by omega) (by omega) (by omega)) ?_
       clear hS
       rintro _ w ⟨rfl, hS⟩
       refine WL.nil ?_
       refine WC.region ?_
       refine WL.val (.add (.of rfl) (.of rfl) ⟨by omega, by omega⟩) rfl ?_
       refine WL.val (.move (.of rfl)) rfl ?_
       refine WL.nil ?_
       have hst : ((Q.getD k (7, 0, [])).1 == 2 || (Q.getD k (7, 0, [])).1 == 3) = false := hb65
       replace hS := hS.drop (k := 1) rfl; try dsimp only [List.eraseIdx] at hS
       have e9 : runAt Q (Q.length + 1) (at_ s (i : Int)) now (next, any, steps) k = (addP Q (Q.length + 1) next (k + 1), true, steps + 1) := by rw [runAt, hnk, hfk, hst]; rfl
       refine ⟨(addP Q (Q.length + 1) next (k + 1), true, steps + 1, k + 1), ⟨rfl, rfl, rfl, rfl, rfl, rfl, rfl, rfl, rfl, rfl, rfl, trivial⟩, ⟨by omega, by rw [iter, hit, e9], hS⟩, by dsimp only; omega⟩
   ·
    have hc37 := hb37; try simp only [Gk.cs0] at hc37
    refine WC.exit ?_
    refine WC.seq ?_
    refine WC.region ?_
    refine WL.val (.move (.of rfl)) rfl ?_
    refine WL.val (.assign (.of rfl)) rfl ?_
    refine WL.nil ?_
    refine WC.seq ?_
    refine WC.region ?_
    refine WL.val (.move (.of rfl)) rfl ?_
    refine WL.val (.not (.of rfl)) rfl ?_
    refine WL.nil ?_
    refine WC.cond rfl (fun hb78 => ?_) (fun hb78 => ?_)
    ·
     have hc78 := hb78; try simp only [Gk.cs0] at hc78
     refine WC.exit ?_
     have hkq : k = Q.length := by omega
     subst hkq
     have hB : runB Q (Q.length + 1) (at_ s (i : Int)) now steps0 = (next, any, steps) := hit
     replace hS := hS.drop (k := 1) rfl; try dsimp only [List.eraseIdx] at hS
     rw [drop_at s (by omega), runS, hB] at hrun
     rw [hc78] at hrun
     exact ⟨(next, steps, b33), ⟨rfl, rfl, rfl, rfl, trivial⟩, hit1.1, hrun, hS⟩
    ·
     have hc78 := hb78; try simp only [Gk.cs0] at hc78
     refine WC.skip ?_
     refine WC.region ?_
     refine WL.val (.add (.of rfl) (.of rfl) ⟨by omega, by omega⟩) rfl ?_
     refine WL.val (.move (.of rfl)) rfl ?_
     refine WL.nil ?_
     have hkq : k = Q.length := by omega
     subst hkq
     have hB : runB Q (Q.length + 1) (at_ s (i : Int)) now steps0 = (next, any, steps) := hit
     replace hS := hS.drop (k := 1) rfl; try dsimp only [List.eraseIdx] at hS
     rw [drop_at s (by omega), runS, hB] at hrun
     have hany : any = true := by simpa using hb78
     rw [hany] at hrun
     exact ⟨(next, steps, b33, i + 1), ⟨rfl, rfl, rfl, rfl, rfl, rfl, trivial⟩, ⟨by omega, hit1.1, by omega, hrun, hS⟩, by dsimp only; omega⟩
  ·
   have hc26 := hb26; try simp only [Gk.cs0] at hc26
   refine WC.exit ?_
   rw [List.drop_of_length_le (by omega)] at hrun
   exact ⟨(now, steps0, bn), ⟨rfl, rfl, rfl, rfl, trivial⟩, hnow, hrun, hS⟩
 ·
  rintro ⟨now, steps, bn⟩ w ⟨hnow, hrun, hS⟩
  change WC _ _ _ _ [(0, .pointer (some p)), (1, S s), (6, .slice (some (ad bn 0)) Q.length Q.length), (7, I64 (steps : Nat))] w
  refine WC.seq ?_
  have hm1 : ((nn : Int) + 1) * ((s.length : Int) + 1) ≤ 1001 * 1000001 := Int.mul_le_mul (by omega) (by omega) (by omega) (by omega)
  have hm0 : 0 ≤ ((nn : Int) + 1) * ((s.length : Int) + 1) := Int.mul_nonneg (by omega) (by omega)
  have hmul : In64 (((nn : Int) + 1) * ((s.length : Int) + 1)) := ⟨by omega, by omega⟩
  refine WC.quiet (by kernel_rfl) (by kernel_rfl) hS ?_
  refine WQ.val (fun w hS => (.move (.of rfl))) rfl ?_
  refine WQ.val (fun w hS => (.move (.of rfl))) rfl ?_
  refine WQ.val (fun w hS => (.nilCheck (.of rfl))) rfl ?_
  refine WQ.val (fun w hS => (by first | exact .fieldAddr 0 (.of rfl) Tryz.underlying86 rfl rfl Tryz.sizeOf78 rfl | exact .fieldAddrI 0 (.of rfl) Tryz.underlying86 rfl rfl Tryz.sizeOf78 rfl)) rfl ?_
  refine WQ.val (fun w hS => .ldI (.of rfl) hS hpA Tryz.isAgg78 rfl) rfl ?_
  refine WQ.val (fun w hS => (.lenSlice (.of rfl) Tryz.underlying78)) rfl ?_
  refine WQ.val (fun w hS => (.sub (.of rfl) (.of rfl) ⟨by omega, by omega⟩)) rfl ?_
  refine WQ.val (fun w hS => (by first | exact .indexAddr (.of rfl) (.of rfl) (by omega) (by omega) Tryz.underlying97 Tryz.sizeOf4 | exact .indexAddrI (.of rfl) (.of rfl) (by omega) (by omega) Tryz.underlying97 Tryz.sizeOf4)) rfl ?_
  refine WQ.val (fun w hS => .ldE .bool now false [] (.of rfl) hS (k := 0) rfl rfl Tryz.isAgg4 (by omega) (by omega)) rfl ?_
  refine WQ.val (fun w hS => (.move (.of rfl))) rfl ?_
  refine WQ.val (fun w hS => (.move (.of rfl))) rfl ?_
  refine WQ.val (fun w hS => (.nilCheck (.of rfl))) rfl ?_
  refine WQ.val (fun w hS => (by first | exact .fieldAddr 1 (.of rfl) Tryz.underlying86 rfl rfl Tryz.sizeOf3 rfl | exact .fieldAddrI 1 (.of rfl) Tryz.underlying86 rfl rfl Tryz.sizeOf3 rfl)) rfl ?_
  refine WQ.val (fun w hS => .ldI (.of rfl) hS (hpA.add 1) Tryz.isAgg3 rfl) rfl ?_
  refine WQ.val (fun w hS => (.add (.of rfl) (.of rfl) ⟨by omega, by omega⟩)) rfl ?_
  refine WQ.val (fun w hS => (.move (.of rfl))) rfl ?_
  refine WQ.val (fun w hS => (.len (.of rfl) Tryz.underlying9)) rfl ?_
  refine WQ.val (fun w hS => (.add (.of rfl) (.of rfl) ⟨by omega, by omega⟩)) rfl ?_
  refine WQ.val (fun w hS => .mul (.of rfl) (.of rfl) hmul) rfl ?_
  refine WQ.val (fun w hS => (.min2 (.of rfl) (.of rfl))) rfl ?_
  refine WQ.val (fun w hS => (.assign (.of rfl))) rfl ?_
  refine WQ.val (fun w hS => (.assign (.of rfl))) rfl ?_
  refine WQ.nil ?_
  clear hS; intro w hS
  refine WC.ret ?_
  refine ret2 Tryz.results41 rfl rfl ?_
  exact ⟨_, rfl, by rw [← hrun, show ((Q.length : Int) - 1).toNat = Q.length - 1 by omega], hS.drop (k := 0) rfl⟩
end Go.Proofs.YtchgkcbloeoopaaGreatDoor
namespace Pat
set_option linter.unusedVariables false
set_option linter.unusedSimpArgs false
open Go Gk
inductive Pt
 | nil
 | lit (k c : Int) (r : Pt)
 | bar (r : Pt)
 | grp (b r : Pt)
namespace Pt
def len : Pt → Nat
 | nil => 0
 | lit _ _ r => len r + 1
 | bar r => len r + 1
 | grp b r => len b + len r + 2
def dep : Pt → Nat
 | nil => 0
 | lit _ _ r => dep r
 | bar r => dep r
 | grp b r => max (dep b + 1) (dep r)
def flat : Pt → Prop
 | nil => True
 | lit _ _ r => flat r
 | bar _ => False
 | grp _ r => flat r
def app : Pt → Pt → Pt
 | nil, q => q
 | lit k c r, q => lit k c (app r q)
 | bar r, q => bar (app r q)
 | grp b r, q => grp b (app r q)
def tos : Pt → Nat → List Int
 | nil, _ => []
 | lit _ _ r, n => tos r (n + 1)
 | bar r, n => ((n : Int) + 1) :: tos r (n + 1)
 | grp b r, n => tos r (n + 2 + len b)
def marks : Pt → Nat → List Nat
 | nil, _ => []
 | lit _ _ r, n => marks r (n + 1)
 | bar r, n => n :: marks r (n + 1)
 | grp b r, n => marks r (n + 2 + len b)
def pls (es : List Int) : Pt → Nat → List Pl
 | nil, _ => []
 | lit k c r, n => (k, c, []) :: pls es r (n + 1)
 | bar r, n => (5, 0, es) :: pls es r (n + 1)
 | grp b r, n => (4, 0, tos b (n + 1)) :: (pls [((n + 1 + len b : Nat) : Int)] b (n + 1) ++ (6, 0, []) :: pls es r (n + 2 + len b))
theorem pls_len : ∀ (p : Pt) (es : List Int) (n : Nat), (pls es p n).length = p.len
 | nil, _, _ => rfl
 | lit _ _ r, es, n => by simp [pls, len, pls_len r]
 | bar r, es, n => by simp [pls, len, pls_len r]
 | grp b r, es, n => by simp [pls, len, pls_len b, pls_len r]; omega
end Pt
open Pt
inductive Rep : List UInt8 → Pt → Prop
 | nil : Rep [] .nil
 | one {l p} : Rep l p → Rep (63 :: l) (.lit 1 0 p)
 | all {l p} : Rep l p → Rep (42 :: 42 :: l) (.lit 2 0 p)
 | few {l p} : l.head? ≠ some 42 → Rep l p → Rep (42 :: l) (.lit 3 0 p)
 | grp {t l b p} : Rep t b → Rep l p → Rep (40 :: (t ++ 41 :: l)) (.grp b p)
 | bar {l p} : Rep l p → Rep (124 :: l) (.bar p)
 | esc {l p} (c : UInt8) : Rep l p → Rep (92 :: c :: l) (.lit 0 (c.toNat : Int) p)
 | byte {l p} (c : UInt8) : c ≠ 63 → c ≠ 42 → c ≠ 40 → c ≠ 124 → c ≠ 41 → c ≠ 92 → Rep l p → Rep (c :: l) (.lit 0 (c.toNat : Int) p)
theorem Rep.app {l m : List UInt8} {p q : Pt} (h : Rep l p) (k : Rep m q) (hs : l.getLast? = some 42 → m.head? ≠ some 42) : Rep (l ++ m) (p.app q) := by
 have sub : ∀ {x : UInt8} {l : List UInt8}, ((x :: l).getLast? = some 42 → m.head? ≠ some 42) → l.getLast? = some 42 → m.head? ≠ some 42 := by
  intro x l h1 h2
  refine h1 ?_
  cases l with
  | nil => simp at h2
  | cons y l => simpa using h2
 have suba : ∀ {t l : List UInt8}, ((t ++ 41 :: l).getLast? = some 42 → m.head? ≠ some 42) → l.getLast? = some 42 → m.head? ≠ some 42 := by
  intro t l h1 h2
  refine h1 ?_
  rw [List.getLast?_append]
  cases l with
  | nil => simp at h2
  | cons y l => simp at h2 ⊢; simp [h2]
 induction h with
 | nil => exact k
 | one _ ih => exact .one (ih (sub hs))
 | all _ ih => exact .all (ih (sub (sub hs)))
 | @few l p h1 _ ih =>
  refine .few ?_ (ih (sub hs))
  cases l with
  | nil => exact hs rfl
  | cons y l => exact h1
 | @grp t l b p hb _ _ ih =>
  have := Rep.grp hb (ih (suba (sub hs)))
  simpa [Pt.app] using this
 | bar _ ih => exact .bar (ih (sub hs))
 | esc c _ ih => exact .esc c (ih (sub (sub hs)))
 | byte c h1 h2 h3 h4 h5 h6 _ ih => exact .byte c h1 h2 h3 h4 h5 h6 (ih (sub hs))
def addm : List PFr → List Nat → List PFr
 | [], _ => []
 | (o, bs) :: r, ms => (o, bs ++ ms) :: r
theorem addm_cons (o : Nat) (bs : List Nat) (r : List PFr) (ms : List Nat) : addm ((o, bs) :: r) ms = (o, bs ++ ms) :: r := rfl
theorem addm_nil (s : List PFr) : addm s [] = s := by cases s <;> simp [addm]
theorem setToL_left {A B : List Pl} {o : Nat} (h : o < A.length) (xs : List Int) : setToL (A ++ B) o xs = setToL A o xs ++ B := by
 unfold setToL
 refine List.ext_getElem? fun i => ?_
 rw [List.getElem?_modify, List.getElem?_append, List.getElem?_append, List.length_modify, List.getElem?_modify]
 by_cases e : o = i
 ·subst e; simp [h]
 ·simp [e]
theorem setToL_last (A : List Pl) (k c : Int) (d xs : List Int) (B : List Pl) : setToL (A ++ (k, c, d) :: B) A.length xs = A ++ (k, c, xs) :: B := by
 unfold setToL
 refine List.ext_getElem? fun i => ?_
 rw [List.getElem?_modify]
 by_cases e : A.length = i
 ·subst e; simp
 ·simp [e]
  rcases Nat.lt_or_ge i A.length with hi | hi
  ·rw [List.getElem?_append_left hi, List.getElem?_append_left hi]
  ·obtain ⟨j, rfl⟩ : ∃ j, i = A.length + (j + 1) := ⟨i - A.length - 1, by omega⟩
   rw [List.getElem?_append_right (by omega), List.getElem?_append_right (by omega)]
   simp
theorem setToL_self {A : List Pl} {o : Nat} {k c : Int} {d : List Int} (h : A[o]? = some (k, c, d)) : setToL A o d = A := by
 unfold setToL
 refine List.ext_getElem? fun i => ?_
 rw [List.getElem?_modify]
 by_cases e : o = i
 ·subst e; simp [h]
 ·simp [e]
theorem setToL_twice (A : List Pl) (o : Nat) (x y : List Int) : setToL (setToL A o x) o y = setToL A o y := by
 unfold setToL
 refine List.ext_getElem? fun i => ?_
 rw [List.getElem?_modify, List.getElem?_modify, List.getElem?_modify]
 by_cases e : o = i
 ·subst e; simp [Option.map_map, Function.comp_def]
 ·simp [e]
theorem setToL_len (A : List Pl) (o : Nat) (x : List Int) : (setToL A o x).length = A.length := by simp [setToL]
theorem closeGo_pls (n o : Nat) : ∀ (p : Pt) (A : List Pl) (k c : Int) (d : List Int), A[o]? = some (k, c, d) →
  closeGo n o (A ++ pls [] p A.length) d (marks p A.length) = setToL A o (d ++ tos p A.length) ++ pls [(n : Int)] p A.length
 | .nil, A, k, c, d, h => by simp [pls, marks, closeGo, tos, setToL_self h]
 | .lit k' c' r, A, k, c, d, h => by
  have ho : o < A.length := (List.getElem?_eq_some_iff.1 h).1
  have ih := closeGo_pls n o r (A ++ [(k', c', [])]) k c d (by rw [List.getElem?_append_left ho]; exact h)
  rw [List.length_append, setToL_left ho] at ih
  simpa [pls, marks, tos] using ih
 | .bar r, A, k, c, d, h => by
  have ho : o < A.length := (List.getElem?_eq_some_iff.1 h).1
  have ih := closeGo_pls n o r (setToL A o (d ++ [(A.length : Int) + 1]) ++ [(5, 0, [(n : Int)])]) k c (d ++ [(A.length : Int) + 1]) (by
   rw [List.getElem?_append_left (by rw [setToL_len]; exact ho)]; simp [setToL, h])
  rw [List.length_append, setToL_len, setToL_left (by rw [setToL_len]; exact ho), setToL_twice] at ih
  rw [marks, closeGo, pls, setToL_left ho]
  have e := setToL_last (setToL A o (d ++ [(A.length : Int) + 1])) 5 0 [] [(n : Int)] (pls [] r (A.length + 1))
  rw [setToL_len] at e
  rw [e]
  simpa [pls, tos] using ih
 | .grp b r, A, k, c, d, h => by
  have ho : o < A.length := (List.getElem?_eq_some_iff.1 h).1
  have ih := closeGo_pls n o r (A ++ ((4, 0, tos b (A.length + 1)) :: (pls [((A.length + 1 + len b : Nat) : Int)] b (A.length + 1) ++ [(6, 0, [])]))) k c d (by rw [List.getElem?_append_left ho]; exact h)
  have e : (A ++ ((4, 0, tos b (A.length + 1)) :: (pls [((A.length + 1 + len b : Nat) : Int)] b (A.length + 1) ++ [(6, 0, [])]))).length = A.length + 2 + len b := by
   simp [pls_len]; omega
  rw [e, setToL_left ho] at ih
  simpa [pls, marks, tos] using ih
theorem hd_app {l rest : List UInt8} (h : l.head? ≠ some 42) (h2 : l = [] → rest.head? ≠ some 42) : (l ++ rest).head? ≠ some 42 := by
 cases l with
 | nil => exact h2 rfl
 | cons y l => exact h
theorem cmpGo_star {l : List UInt8} (h : l.head? ≠ some 42) (i : Int) (Q : List Pl) (stk : List PFr) (ats : List Int) : cmpGo (42 :: l) i Q stk ats = cmpGo l (i + 1) (Q ++ [(3, 0, [])]) stk ats := by
 rw [cmpGo_cons, if_neg (by decide), if_pos (by decide)]
 cases l with
 | nil => rfl
 | cons d r =>
  have hd : ¬ d.toNat = 42 := fun e => h (by rw [List.head?_cons]; exact congrArg _ (UInt8.toNat_inj.1 e))
  simp only [hd, if_false]
theorem ne_toNat {c : UInt8} {n : UInt8} (h : c ≠ n) : ¬ c.toNat = n.toNat := fun e => h (UInt8.toNat_inj.1 e)
theorem cmpGo_rep {l : List UInt8} {p : Pt} (h : Rep l p) : ∀ (rest : List UInt8) (i : Int) (Q : List Pl) (stk : List PFr) (ats : List Int), (l.getLast? = some 42 → rest.head? ≠ some 42) → (p.flat ∨ stk ≠ []) → ats.length = stk.length → stk.length ≤ 4 →
  (p.dep + stk.length ≤ 4 → cmpGo (l ++ rest) i Q stk ats = cmpGo rest (i + l.length) (Q ++ pls [] p Q.length) (addm stk (marks p Q.length)) ats) ∧ (4 < p.dep + stk.length → ∀ X, cmpGo (l ++ rest) i Q stk ats ≠ .ok X) := by
 have sub : ∀ {x : UInt8} {l rest : List UInt8}, ((x :: l).getLast? = some 42 → rest.head? ≠ some 42) → l.getLast? = some 42 → rest.head? ≠ some 42 := by
  intro x l rest h1 h2
  refine h1 ?_
  cases l with
  | nil => simp at h2
  | cons y l => simpa using h2
 have suba : ∀ {t l rest : List UInt8}, ((t ++ 41 :: l).getLast? = some 42 → rest.head? ≠ some 42) → l.getLast? = some 42 → rest.head? ≠ some 42 := by
  intro t l rest h1 h2
  refine h1 ?_
  rw [List.getLast?_append]
  cases l with
  | nil => simp at h2
  | cons y l => simp at h2 ⊢; simp [h2]
 induction h with
 | nil => intro rest i Q stk ats _ _ _ h4; simp [pls, marks, addm_nil, dep]; intro hh; omega
 | @one l p _ ih =>
  intro rest i Q stk ats hs hf ha h4
  have := ih rest (i + 1) (Q ++ [(1, 0, [])]) stk ats (sub hs) hf ha h4
  rw [List.cons_append, cmpGo_cons, if_pos (show (63 : UInt8).toNat = 63 by decide)]
  simpa [pls, marks, dep, Int.add_assoc, Int.add_comm, Int.add_left_comm] using this
 | @all l p _ ih =>
  intro rest i Q stk ats hs hf ha h4
  have := ih rest (i + 2) (Q ++ [(2, 0, [])]) stk ats (sub (sub hs)) hf ha h4
  rw [List.cons_append, cmpGo_cons, if_neg (show ¬ (42 : UInt8).toNat = 63 by decide), if_pos (show (42 : UInt8).toNat = 42 by decide)]
  simp only [List.cons_append]
  rw [if_pos (show (42 : UInt8).toNat = 42 by decide)]
  rw [show i + ((42 :: 42 :: l).length : Nat) = i + 2 + (l.length : Int) by simp; omega]
  simpa [pls, marks, dep] using this
 | @few l p h1 _ ih =>
  intro rest i Q stk ats hs hf ha h4
  have := ih rest (i + 1) (Q ++ [(3, 0, [])]) stk ats (sub hs) hf ha h4
  rw [List.cons_append, cmpGo_star (hd_app h1 fun e => by subst e; exact hs rfl)]
  rw [show i + ((42 :: l).length : Nat) = i + 1 + (l.length : Int) by simp; omega]
  simpa [pls, marks, dep] using this
 | @bar l p _ ih =>
  intro rest i Q stk ats hs hf ha h4
  cases stk with
  | nil => rcases hf with hf | hf; exact hf.elim; exact absurd rfl hf
  | cons f stk =>
   obtain ⟨o, bs⟩ := f
   have := ih rest (i + 1) (Q ++ [(5, 0, [])]) ((o, bs ++ [Q.length]) :: stk) ats (sub hs) (.inr (by simp)) ha h4
   rw [List.cons_append, cmpGo_cons, if_neg (show ¬ (124 : UInt8).toNat = 63 by decide), if_neg (show ¬ (124 : UInt8).toNat = 42 by decide), if_neg (show ¬ (124 : UInt8).toNat = 40 by decide), if_pos (show (124 : UInt8).toNat = 124 by decide)]
   simp only []
   rw [show i + ((124 :: l).length : Nat) = i + 1 + (l.length : Int) by simp; omega]
   simpa [pls, marks, dep, addm] using this
 | @esc l p c _ ih =>
  intro rest i Q stk ats hs hf ha h4
  have := ih rest (i + 2) (Q ++ [(0, (c.toNat : Int), [])]) stk ats (sub (sub hs)) hf ha h4
  rw [List.cons_append, cmpGo_cons, if_neg (show ¬ (92 : UInt8).toNat = 63 by decide), if_neg (show ¬ (92 : UInt8).toNat = 42 by decide), if_neg (show ¬ (92 : UInt8).toNat = 40 by decide), if_neg (show ¬ (92 : UInt8).toNat = 124 by decide), if_neg (show ¬ (92 : UInt8).toNat = 41 by decide), if_pos (show (92 : UInt8).toNat = 92 by decide)]
  simp only [List.cons_append]
  rw [show i + ((92 :: c :: l).length : Nat) = i + 2 + (l.length : Int) by simp; omega]
  simpa [pls, marks, dep] using this
 | @byte l p c h1 h2 h3 h4' h5 h6 _ ih =>
  intro rest i Q stk ats hs hf ha h4
  have := ih rest (i + 1) (Q ++ [(0, (c.toNat : Int), [])]) stk ats (sub hs) hf ha h4
  rw [List.cons_append, cmpGo_cons, if_neg (show ¬ c.toNat = 63 from ne_toNat h1), if_neg (show ¬ c.toNat = 42 from ne_toNat h2), if_neg (show ¬ c.toNat = 40 from ne_toNat h3), if_neg (show ¬ c.toNat = 124 from ne_toNat h4'), if_neg (show ¬ c.toNat = 41 from ne_toNat h5), if_neg (show ¬ c.toNat = 92 from ne_toNat h6)]
  rw [show i + ((c :: l).length : Nat) = i + 1 + (l.length : Int) by simp; omega]
  simpa [pls, marks, dep] using this
 | @grp t l b p _ _ ihb ih =>
  intro rest i Q stk ats hs hf ha h4
  rw [List.cons_append, List.append_assoc, List.cons_append, cmpGo_cons, if_neg (show ¬ (40 : UInt8).toNat = 63 by decide), if_neg (show ¬ (40 : UInt8).toNat = 42 by decide), if_pos (show (40 : UInt8).toNat = 40 by decide)]
  by_cases h5 : stk.length = 4
  ·rw [if_pos h5]
   refine ⟨fun h => ?_, fun _ X h => by cases h⟩
   simp [dep] at h
   omega
  ·rw [if_neg h5]
   have h1 := ihb (41 :: (l ++ rest)) (i + 1) (Q ++ [(4, 0, [])]) ((Q.length, []) :: stk) (ats ++ [i]) (fun _ => by simp) (.inr (by simp)) (by simp [ha]) (by simp; omega)
   by_cases h6 : b.dep + (stk.length + 1) ≤ 4
   ·have h7 := h1.1 (by simpa using h6)
    rw [h7]
    have h8 := ih rest (i + 1 + t.length + 1) (Q ++ ((4, 0, tos b (Q.length + 1)) :: (pls [((Q.length + 1 + len b : Nat) : Int)] b (Q.length + 1) ++ [(6, 0, [])]))) stk ats (suba (sub hs)) hf ha h4
    have hc := closeGo_pls (Q.length + 1 + len b) Q.length b (Q ++ [(4, 0, [])]) 4 0 [] (by simp)
    have hl := setToL_last Q 4 0 [] (tos b (Q.length + 1)) []
    simp only [List.length_append, List.length_singleton, List.nil_append] at hc
    rw [hl] at hc
    rw [cmpGo_cons, if_neg (show ¬ (41 : UInt8).toNat = 63 by decide), if_neg (show ¬ (41 : UInt8).toNat = 42 by decide), if_neg (show ¬ (41 : UInt8).toNat = 40 by decide), if_neg (show ¬ (41 : UInt8).toNat = 124 by decide), if_pos (show (41 : UInt8).toNat = 41 by decide)]
    simp only [addm_cons, List.length_append, List.length_singleton, List.nil_append, pls_len]
    rw [hc]
    have ht : (ats ++ [i]).take stk.length = ats := by rw [← ha]; simp
    rw [ht]
    have e1 : (Q ++ ((4, 0, tos b (Q.length + 1)) :: (pls [((Q.length + 1 + len b : Nat) : Int)] b (Q.length + 1) ++ [(6, 0, [])]))).length = Q.length + 2 + len b := by simp [pls_len]; omega
    rw [e1] at h8
    have e2 : i + ((40 :: (t ++ 41 :: l)).length : Nat) = i + 1 + t.length + 1 + l.length := by simp; omega
    rw [e2]
    have e3 : 4 < (Pt.grp b p).dep + stk.length ↔ 4 < p.dep + stk.length := by simp [dep]; omega
    have e4 : (Pt.grp b p).dep + stk.length ≤ 4 ↔ p.dep + stk.length ≤ 4 := by simp [dep]; omega
    rw [e3, e4]
    simpa [pls, marks] using h8
   ·refine ⟨fun h => ?_, fun _ => h1.2 (by simp; omega)⟩
    simp [dep] at h
    omega
end Pat
namespace Pat
set_option linter.unusedVariables false
set_option linter.unusedSimpArgs false
open Go Gk Pt
inductive Splits : Nat → List UInt8 → Prop
 | last {l p} : Rep l p → p.flat → p.dep ≤ 4 → Splits 0 l
 | more {d t l p} : Rep t p → p.dep + (d + 1) ≤ 4 → Splits d l → Splits (d + 1) (t ++ 41 :: l)
theorem Splits.lit {d : Nat} {l pre : List UInt8} {k c : Int} (h : Splits d l) (hp : ∀ {t p}, (t.head? = some 42 → l.head? = some 42) → Rep t p → Rep (pre ++ t) (.lit k c p)) : Splits d (pre ++ l) := by
 cases h with
 | last h1 h2 h3 => exact .last (hp (fun h => h) h1) h2 h3
 | @more d t l p h1 h2 h3 =>
  rw [← List.append_assoc]
  refine .more (hp ?_ h1) h2 h3
  intro e
  cases t with
  | nil => simp at e
  | cons x t => simpa using e
theorem Splits.grp {d : Nat} {t l : List UInt8} {b : Pt} (h : Splits d l) (h1 : Rep t b) (h2 : b.dep + (d + 1) ≤ 4) : Splits d (40 :: (t ++ 41 :: l)) := by
 cases h with
 | @last _ p k1 k2 k3 => exact .last (.grp h1 k1) k2 (by simp [dep]; omega)
 | @more d t2 l2 p k1 k2 k3 =>
  have := Splits.more (.grp h1 k1) (by simp [dep]; omega) k3
  simpa using this
theorem splits : ∀ (n : Nat) (l : List UInt8) (i : Int) (Q : List Pl) (stk : List PFr) (ats : List Int) (X : List Pl), l.length ≤ n → ats.length = stk.length → stk.length ≤ 4 → cmpGo l i Q stk ats = .ok X → Splits stk.length l
 | n, [], i, Q, stk, ats, X, _, ha, h4, h => by
  rw [cmpGo_nil] at h
  split at h
  ·cases h
  ·have e : stk.length = 0 := by omega
   rw [e]; exact .last .nil trivial (by simp [dep])
 | 0, c :: l, _, _, _, _, _, hn, _, _, _ => by simp at hn
 | n + 1, c :: l, i, Q, stk, ats, X, hn, ha, h4, h => by
  have hn' : l.length ≤ n := by simpa using hn
  rw [cmpGo_cons] at h
  split at h
  ·rename_i e
   have e : c = 63 := UInt8.toNat_inj.1 e
   subst e
   exact (splits n l _ _ stk ats X hn' ha h4 h).lit (pre := [63]) fun _ hr => .one hr
  split at h
  ·rename_i e
   have e : c = 42 := UInt8.toNat_inj.1 e
   subst e
   cases l with
   | nil => exact (splits n [] _ _ stk ats X hn' ha h4 h).lit (pre := [42]) fun {t p} hd hr => .few (fun e => by have := hd e; simp at this) hr
   | cons d r =>
    simp only at h
    split at h
    ·rename_i e2
     have e2 : d = 42 := UInt8.toNat_inj.1 e2
     subst e2
     exact (splits n r _ _ stk ats X (by simp at hn'; omega) ha h4 h).lit (pre := [42, 42]) fun _ hr => .all hr
    ·rename_i e2
     exact (splits n (d :: r) _ _ stk ats X hn' ha h4 h).lit (pre := [42]) fun {t p} hd hr => .few (fun e => by have := hd e; simp at this; subst this; exact e2 (by decide)) hr
  split at h
  ·rename_i e
   have e : c = 40 := UInt8.toNat_inj.1 e
   subst e
   split at h
   ·cases h
   ·rename_i h5
    have hs := splits n l _ _ ((Q.length, []) :: stk) (ats ++ [i]) X hn' (by simp [ha]) (by simp; omega) h
    generalize hm : ((Q.length, []) :: stk : List PFr).length = m at hs
    simp only [List.length_cons] at hm
    cases hs with
    | last => omega
    | @more d t l b h1 h2 h3 =>
     have hd : d = stk.length := by omega
     subst hd
     exact h3.grp h1 h2
  split at h
  ·rename_i e
   have e : c = 124 := UInt8.toNat_inj.1 e
   subst e
   cases stk with
   | nil => cases h
   | cons f stk =>
    obtain ⟨o, bs⟩ := f
    have hs := splits n l _ _ ((o, bs ++ [Q.length]) :: stk) ats X hn' ha h4 h
    cases hs with
    | more h1 h2 h3 => exact Splits.more (t := 124 :: _) (.bar h1) h2 h3
  split at h
  ·rename_i e
   have e : c = 41 := UInt8.toNat_inj.1 e
   subst e
   cases stk with
   | nil => cases h
   | cons f stk =>
    obtain ⟨o, bs⟩ := f
    have hs := splits n l _ _ stk _ X hn' (by simp at ha; simp; omega) (by simp at h4; omega) h
    exact Splits.more (t := []) .nil (by simp [dep] at *; omega) hs
  split at h
  ·rename_i e
   have e : c = 92 := UInt8.toNat_inj.1 e
   subst e
   cases l with
   | nil => cases h
   | cons d r => exact (splits n r _ _ stk ats X (by simp at hn'; omega) ha h4 h).lit (pre := [92, d]) fun _ hr => .esc d hr
  ·rename_i h1 h2 h3 h4' h5 h6
   have ne : ∀ {n : UInt8}, ¬ c.toNat = n.toNat → c ≠ n := fun h e => h (by rw [e])
   exact (splits n l _ _ stk ats X hn' ha h4 h).lit (pre := [c]) fun _ hr => .byte c (ne h1) (ne h2) (ne h3) (ne h4') (ne h5) (ne h6) hr
theorem cmp_ok {l : List UInt8} {Q : List Pl} (h : cmp l = .ok Q) : l.length ≤ 200 ∧ ∃ p, Rep l p ∧ p.flat ∧ p.dep ≤ 4 ∧ Q = pls [] p 0 ++ [(7, 0, [])] := by
 unfold cmp at h
 split at h
 ·cases h
 ·rename_i hl
  refine ⟨by omega, ?_⟩
  have hs := splits l.length l 0 [] [] [] Q (Nat.le_refl _) rfl (by simp) h
  cases hs with
  | @last _ p h1 h2 h3 =>
   refine ⟨p, h1, h2, h3, ?_⟩
   have h5 := (cmpGo_rep h1 [] 0 [] [] [] (fun _ => by simp) (.inl h2) rfl (by simp)).1 (by simpa using h3)
   rw [List.append_nil, h, cmpGo_nil] at h5
   simpa using h5
theorem cmp_of {l : List UInt8} {p : Pt} (h : Rep l p) (hf : p.flat) (hl : l.length ≤ 200) (hd : p.dep ≤ 4) : cmp l = .ok (pls [] p 0 ++ [(7, 0, [])]) := by
 have h5 := (cmpGo_rep h [] 0 [] [] [] (fun _ => by simp) (.inl hf) rfl (by simp)).1 (by simpa using hd)
 rw [cmp, if_neg (by omega)]
 rw [List.append_nil, cmpGo_nil] at h5
 simpa using h5
theorem cmp_deep {l : List UInt8} {p : Pt} (h : Rep l p) (hf : p.flat) (hd : 4 < p.dep) (X : List Pl) : cmp l ≠ .ok X := by
 have h5 := (cmpGo_rep h [] 0 [] [] [] (fun _ => by simp) (.inl hf) rfl (by simp)).2 (by simpa using hd) X
 rw [List.append_nil] at h5
 unfold cmp
 split
 ·intro e; cases e
 ·exact h5
theorem cmpGo_chk : ∀ (n : Nat) (l : List UInt8) (i : Int) (Q : List Pl) (stk : List PFr) (o : List Int), l.length ≤ n → o.length = stk.length →
  (∀ e, cmpGo l i Q stk o = .error e → chkGo l i o = e ∧ e.1 ≠ 0) ∧ (∀ X, cmpGo l i Q stk o = .ok X → chkGo l i o = (0, 0))
 | n, [], i, Q, stk, o, _, ho => by
  rw [cmpGo_nil, chkGo_nil]
  split
  ·exact ⟨fun e h => by injection h with h; subst h; exact ⟨rfl, by simp⟩, fun X h => by cases h⟩
  ·exact ⟨fun e h => (by cases h), fun X h => rfl⟩
 | 0, c :: l, _, _, _, _, hn, _ => by simp at hn
 | n + 1, c :: l, i, Q, stk, o, hn, ho => by
  have hn' : l.length ≤ n := by simpa using hn
  rw [cmpGo_cons, chkGo_cons]
  by_cases h63 : c.toNat = 63
  ·rw [if_pos h63, if_neg (by omega), if_neg (by omega), if_neg (by omega), if_neg (by omega)]
   exact cmpGo_chk n l _ _ stk o hn' ho
  rw [if_neg h63]
  by_cases h42 : c.toNat = 42
  ·rw [if_pos h42, if_neg (by omega), if_neg (by omega), if_neg (by omega), if_neg (by omega)]
   cases l with
   | nil => exact cmpGo_chk n [] _ _ stk o hn' ho
   | cons d r =>
    simp only
    by_cases hd : d.toNat = 42
    ·rw [if_pos hd, chkGo_cons, if_neg (by omega), if_neg (by omega), if_neg (by omega), if_neg (by omega), show i + 1 + 1 = i + 2 by omega]
     exact cmpGo_chk n r _ _ stk o (by simp at hn'; omega) ho
    ·rw [if_neg hd]
     exact cmpGo_chk n (d :: r) _ _ stk o hn' ho
  rw [if_neg h42]
  by_cases h40 : c.toNat = 40
  ·rw [if_pos h40, if_pos h40, ← ho]
   by_cases h4 : o.length = 4
   ·rw [if_pos h4, if_pos h4]
    exact ⟨fun e h => by injection h with h; subst h; exact ⟨rfl, by simp⟩, fun X h => by cases h⟩
   ·rw [if_neg h4, if_neg h4]
    exact cmpGo_chk n l _ _ _ (o ++ [i]) hn' (by simp [ho])
  rw [if_neg h40, if_neg h40]
  by_cases h124 : c.toNat = 124
  ·rw [if_pos h124, if_neg (by omega), if_pos h124]
   cases stk with
   | nil => rw [if_pos (by simpa using ho)]; exact ⟨fun e h => by injection h with h; subst h; exact ⟨rfl, by simp⟩, fun X h => by cases h⟩
   | cons f stk =>
    rw [if_neg (by simp at ho; omega)]
    exact cmpGo_chk n l _ _ _ o hn' ho
  rw [if_neg h124, if_neg h124]
  by_cases h41 : c.toNat = 41
  ·rw [if_pos h41, if_pos h41]
   cases stk with
   | nil => rw [if_pos (by simpa using ho)]; exact ⟨fun e h => by injection h with h; subst h; exact ⟨rfl, by simp⟩, fun X h => by cases h⟩
   | cons f stk =>
    obtain ⟨fo, fb⟩ := f
    simp only [List.length_cons] at ho ⊢
    rw [if_neg (by omega), show stk.length = o.length - 1 by omega]
    exact cmpGo_chk n l _ _ _ _ hn' (by simp; omega)
  rw [if_neg h41, if_neg h41]
  by_cases h92 : c.toNat = 92
  ·rw [if_pos h92, if_pos h92]
   cases l with
   | nil => exact ⟨fun e h => by injection h with h; subst h; exact ⟨rfl, by simp⟩, fun X h => by cases h⟩
   | cons d r => exact cmpGo_chk n r _ _ stk o (by simp at hn'; omega) ho
  rw [if_neg h92, if_neg h92]
  exact cmpGo_chk n l _ _ stk o hn' ho
end Pat
namespace Pat
set_option linter.unusedVariables false
set_option linter.unusedSimpArgs false
open Go Gk Pt
def Succ (Q : List Pl) (i j : Nat) : Prop := (skips (Q.getD i (7, 0, [])).1 = true ∧ j = i + 1) ∨ (∃ t ∈ (Q.getD i (7, 0, [])).2.2, j = t.toNat)
inductive Reach (Q : List Pl) : Nat → Nat → Prop
 | refl (i : Nat) : Reach Q i i
 | step {i j k : Nat} : Succ Q i j → Reach Q j k → Reach Q i k
def Cl (Q : List Pl) (a b : List Bool) : Prop := SubB a b ∧ ∀ x, b.getD x false = true → a.getD x false = false → ∀ y, Succ Q x y → b.getD y false = true
theorem Cl.refl (Q : List Pl) (a : List Bool) : Cl Q a a := ⟨SubB.refl a, fun x h k => by rw [h] at k; cases k⟩
theorem Cl.trans {Q : List Pl} {a b c : List Bool} (h : Cl Q a b) (k : Cl Q b c) : Cl Q a c := by
 refine ⟨h.1.trans k.1, fun x hx hn y hy => ?_⟩
 cases hb : b.getD x false with
 | true => exact k.1.2 y (h.2 x hb hn y hy)
 | false => exact k.2 x hx hb y hy
theorem getD_set_true (s : List Bool) (i x : Nat) : (s.set i true).getD x false = true → s.getD x false = true ∨ x = i := by
 intro h
 by_cases e : x = i
 ·exact .inr e
 ·left
  rw [List.getD_eq_getElem?_getD, List.getElem?_set] at h
  rw [List.getD_eq_getElem?_getD]
  have : ¬ i = x := fun h => e h.symm
  simpa [this] using h
theorem getD_set_self {s : List Bool} {i : Nat} (h : i < s.length) : (s.set i true).getD i false = true := by
 rw [List.getD_eq_getElem?_getD, List.getElem?_set]; simp [h]
theorem addP_cl {Q : List Pl} (hW : WF Q) : ∀ (f : Nat) (set : List Bool) (i : Nat), set.length = Q.length → i < Q.length → unset set < f → Cl Q set (addP Q f set i) ∧ (addP Q f set i).getD i false = true
 | 0, _, _, _, _, h => by omega
 | f + 1, set, i, hl, hi, hf => by
  have fold : ∀ (l : List Int) (s : List Bool), s.length = Q.length → unset s < f → (∀ t ∈ l, 0 ≤ t ∧ t < (Q.length : Int)) → Cl Q s (l.foldl (fun s t => addP Q f s t.toNat) s) ∧ ∀ t ∈ l, (l.foldl (fun s t => addP Q f s t.toNat) s).getD t.toNat false = true := by
   intro l
   induction l with
   | nil => intro s _ _ _; exact ⟨Cl.refl Q s, by simp⟩
   | cons t l ih =>
    intro s h1 h2 h3
    have ht := h3 t (by simp)
    have h4 := addP_cl hW f s t.toNat h1 (by omega) h2
    have hsub := addP_sub Q f s t.toNat
    have h5 := ih (addP Q f s t.toNat) (by rw [← hsub.1]; exact h1) (by have := unset_le hsub; omega) (fun u hu => h3 u (by simp [hu]))
    refine ⟨h4.1.trans h5.1, fun u hu => ?_⟩
    rcases List.mem_cons.1 hu with rfl | hu
    ·exact h5.1.1.2 _ h4.2
    ·exact h5.2 u hu
  have hw := hW.at_ hi
  rw [addP]
  cases hs : set.getD i false with
  | true => exact ⟨Cl.refl Q set, hs⟩
  | false =>
   have hu := unset_set (s := set) (i := i) (by omega) hs
   have h1 := fold (Q.getD i (7, 0, [])).2.2 (set.set i true) (by simp [hl]) (by omega) hw.1
   generalize hS : (Q.getD i (7, 0, [])).2.2.foldl (fun s t => addP Q f s t.toNat) (set.set i true) = S1 at h1
   have hset : SubB set S1 := (SubB.set set i).trans h1.1.1
   have hiS : S1.getD i false = true := h1.1.1.2 i (getD_set_self (by omega))
   simp only [cond_false]
   cases hk : skips (Q.getD i (7, 0, [])).1 with
   | false =>
    simp only [cond_false]
    refine ⟨⟨hset, fun x hx hn y hy => ?_⟩, hiS⟩
    by_cases e : x = i
    ·subst e
     rcases hy with ⟨h, _⟩ | ⟨t, ht, rfl⟩
     ·rw [hk] at h; cases h
     ·exact h1.2 t ht
    ·refine h1.1.2 x hx ?_ y hy
     cases h9 : (set.set i true).getD x false with
     | false => rfl
     | true => rcases getD_set_true _ _ _ h9 with h | h; rw [h] at hn; cases hn; exact absurd h e
   | true =>
    simp only [cond_true]
    have hi1 := hw.2.1 hk
    have h2 := addP_cl hW f S1 (i + 1) (by rw [← hset.1]; exact hl) hi1 (by have := unset_le h1.1.1; omega)
    refine ⟨⟨hset.trans h2.1.1, fun x hx hn y hy => ?_⟩, h2.1.1.2 i hiS⟩
    by_cases e : x = i
    ·subst e
     rcases hy with ⟨_, rfl⟩ | ⟨t, ht, rfl⟩
     ·exact h2.2
     ·exact h2.1.1.2 _ (h1.2 t ht)
    ·cases h8 : S1.getD x false with
     | true =>
      refine h2.1.1.2 y (h1.1.2 x h8 ?_ y hy)
      cases h9 : (set.set i true).getD x false with
      | false => rfl
      | true => rcases getD_set_true _ _ _ h9 with h | h; rw [h] at hn; cases hn; exact absurd h e
     | false => exact h2.1.2 x hx h8 y hy
theorem addP_sound {Q : List Pl} : ∀ (f : Nat) (set : List Bool) (i x : Nat), (addP Q f set i).getD x false = true → set.getD x false = true ∨ Reach Q i x
 | 0, set, i, x, h => .inl h
 | f + 1, set, i, x, h => by
  have fold : ∀ (l : List Int) (s : List Bool), (l.foldl (fun s t => addP Q f s t.toNat) s).getD x false = true → s.getD x false = true ∨ ∃ t ∈ l, Reach Q t.toNat x := by
   intro l
   induction l with
   | nil => intro s h; exact .inl h
   | cons t l ih =>
    intro s h
    rcases ih _ h with h | ⟨u, hu, h⟩
    ·rcases addP_sound f s t.toNat x h with h | h
     ·exact .inl h
     ·exact .inr ⟨t, by simp, h⟩
    ·exact .inr ⟨u, by simp [hu], h⟩
  have done : ∀ {S1 : List Bool}, (∀ h : S1.getD x false = true, (set.set i true).getD x false = true ∨ ∃ t ∈ (Q.getD i (7, 0, [])).2.2, Reach Q t.toNat x) → S1.getD x false = true → set.getD x false = true ∨ Reach Q i x := by
   intro S1 h1 h2
   rcases h1 h2 with h | ⟨t, ht, h⟩
   ·rcases getD_set_true _ _ _ h with h | rfl
    ·exact .inl h
    ·exact .inr (.refl _)
   ·exact .inr (.step (.inr ⟨t, ht, rfl⟩) h)
  rw [addP] at h
  cases hs : set.getD i false with
  | true => rw [hs] at h; exact .inl h
  | false =>
   rw [hs] at h
   simp only [cond_false] at h
   cases hk : skips (Q.getD i (7, 0, [])).1 with
   | false => rw [hk] at h; exact done (fold _ _) h
   | true =>
    rw [hk] at h
    simp only [cond_true] at h
    rcases addP_sound f _ _ x h with h | h
    ·exact done (fold _ _) h
    ·exact .inr (.step (.inl ⟨hk, rfl⟩) h)
inductive Acc (Q : List Pl) : Nat → List UInt8 → Prop
 | fin {i} : i < Q.length → (Q.getD i (7, 0, [])).1 = 7 → Acc Q i []
 | go {i j s} : i < Q.length → Succ Q i j → Acc Q j s → Acc Q i s
 | eat {i c s} : i < Q.length → fitsP (Q.getD i (7, 0, [])).1 (Q.getD i (7, 0, [])).2.1 c = true → Acc Q (bif ((Q.getD i (7, 0, [])).1 == 2) || ((Q.getD i (7, 0, [])).1 == 3) then i else i + 1) s → Acc Q i (c :: s)
theorem Acc.reach {Q : List Pl} (hW : WF Q) {i j : Nat} {s : List UInt8} (hi : i < Q.length) (h : Reach Q i j) (k : Acc Q j s) : Acc Q i s := by
 induction h with
 | refl => exact k
 | @step i j k' hs _ ih =>
  refine .go hi hs (ih ?_ k)
  have hw := hW.at_ hi
  rcases hs with ⟨h1, rfl⟩ | ⟨t, ht, rfl⟩
  ·exact hw.2.1 h1
  ·have := hw.1 t ht; omega
def Closed (Q : List Pl) (s : List Bool) : Prop := ∀ x, s.getD x false = true → ∀ y, Succ Q x y → s.getD y false = true
theorem Closed.cl {Q : List Pl} {a b : List Bool} (h : Closed Q a) (k : Cl Q a b) : Closed Q b := by
 intro x hx y hy
 cases ha : a.getD x false with
 | true => exact k.1.2 y (h x ha y hy)
 | false => exact k.2 x hx ha y hy
theorem getD_rep (n x : Nat) : (List.replicate n false).getD x false = false := by
 rw [List.getD_eq_getElem?_getD, List.getElem?_replicate]; split <;> rfl
theorem Closed.rep (Q : List Pl) (n : Nat) : Closed Q (List.replicate n false) := fun x hx => by rw [getD_rep] at hx; cases hx
section
variable {Q : List Pl} (hW : WF Q) {F : Nat} (hF : Q.length < F) (now : List Bool) (c : UInt8)
abbrev tgt (Q : List Pl) (i : Nat) : Nat := bif ((Q.getD i (7, 0, [])).1 == 2) || ((Q.getD i (7, 0, [])).1 == 3) then i else i + 1
theorem tgt_lt (hW : WF Q) {i : Nat} {c : UInt8} (hi : i < Q.length) (h : fitsP (Q.getD i (7, 0, [])).1 (Q.getD i (7, 0, [])).2.1 c = true) : tgt Q i < Q.length := by
 have h7 := (hW.at_ hi).2.2.2.1 (fun e => by rw [e, fitsP] at h; simp at h)
 unfold tgt
 cases ((Q.getD i (7, 0, [])).1 == 2) || ((Q.getD i (7, 0, [])).1 == 3)
 ·exact h7
 ·exact hi
theorem runIter (hW : WF Q) (hF : Q.length < F) (steps : Nat) : ∀ k, k ≤ Q.length → ∃ nx any st, iter (runAt Q F c now) (List.replicate Q.length false, false, steps) k = (nx, any, st) ∧ nx.length = Q.length ∧ Closed Q nx ∧
  (∀ i, i < k → now.getD i false = true → fitsP (Q.getD i (7, 0, [])).1 (Q.getD i (7, 0, [])).2.1 c = true → nx.getD (tgt Q i) false = true ∧ any = true) ∧
  (∀ x, nx.getD x false = true → ∃ i, i < Q.length ∧ now.getD i false = true ∧ fitsP (Q.getD i (7, 0, [])).1 (Q.getD i (7, 0, [])).2.1 c = true ∧ Reach Q (tgt Q i) x)
 | 0, _ => ⟨_, _, _, rfl, by simp, Closed.rep _ _, fun _ h => by omega, fun x hx => by rw [getD_rep] at hx; cases hx⟩
 | k + 1, hk => by
  obtain ⟨nx, any, st, h1, h2, h3, h4, h5⟩ := runIter hW hF steps k (by omega)
  rw [iter, h1, runAt]
  cases hn : now.getD k false with
  | false =>
   refine ⟨_, _, _, rfl, h2, h3, fun i hi hni hf => ?_, h5⟩
   by_cases e : i = k
   ·subst e; rw [hn] at hni; cases hni
   ·exact h4 i (by omega) hni hf
  | true =>
   cases hf : fitsP (Q.getD k (7, 0, [])).1 (Q.getD k (7, 0, [])).2.1 c with
   | false =>
    refine ⟨_, _, _, rfl, h2, h3, fun i hi hni hf2 => ?_, h5⟩
    by_cases e : i = k
    ·subst e; rw [hf] at hf2; cases hf2
    ·exact h4 i (by omega) hni hf2
   | true =>
    have ht := tgt_lt hW (i := k) (by omega) hf
    have hu : unset nx ≤ nx.length := List.countP_le_length
    have h6 := addP_cl hW F nx (tgt Q k) h2 ht (by omega)
    refine ⟨_, _, _, rfl, ?_, ?_, fun i hi hni hf2 => ?_, fun x hx => ?_⟩
    ·exact h6.1.1.1.symm.trans h2
    ·exact h3.cl h6.1
    ·by_cases e : i = k
     ·subst e; exact ⟨h6.2, rfl⟩
     ·exact ⟨h6.1.1.2 _ (h4 i (by omega) hni hf2).1, rfl⟩
    ·rcases addP_sound F nx (tgt Q k) x hx with h | h
     ·exact h5 x h
     ·exact ⟨k, by omega, hn, hf, h⟩
end
theorem Acc.inv_nil {Q : List Pl} {now : List Bool} (hc : Closed Q now) : ∀ {i : Nat} {s : List UInt8}, Acc Q i s → s = [] → now.getD i false = true → ∃ j, j < Q.length ∧ (Q.getD j (7, 0, [])).1 = 7 ∧ now.getD j false = true := by
 intro i s h
 induction h with
 | fin h1 h2 => intro _ h; exact ⟨_, h1, h2, h⟩
 | go h1 h2 _ ih => intro h3 h; exact ih h3 (hc _ h _ h2)
 | eat => intro h; cases h
theorem Acc.inv_cons {Q : List Pl} {now : List Bool} (hc : Closed Q now) {c : UInt8} {r : List UInt8} : ∀ {i : Nat} {s : List UInt8}, Acc Q i s → s = c :: r → now.getD i false = true → ∃ j, j < Q.length ∧ now.getD j false = true ∧ fitsP (Q.getD j (7, 0, [])).1 (Q.getD j (7, 0, [])).2.1 c = true ∧ Acc Q (tgt Q j) r := by
 intro i s h
 induction h with
 | fin => intro h; cases h
 | go h1 h2 _ ih => intro h3 h; exact ih h3 (hc _ h _ h2)
 | eat h1 h2 h3 => intro h4 h; injection h4 with h4 h5; subst h4; subst h5; exact ⟨_, h1, h, h2, h3⟩
def End7 (Q : List Pl) : Prop := 0 < Q.length ∧ ∀ j, j < Q.length → ((Q.getD j (7, 0, [])).1 = 7 ↔ j = Q.length - 1)
theorem runS_iff {Q : List Pl} (hW : WF Q) (hE : End7 Q) {F : Nat} (hF : Q.length < F) : ∀ (s : List UInt8) (now : List Bool) (st : Nat), now.length = Q.length → Closed Q now →
  ((runS Q F s now st).1.getD (Q.length - 1) false = true ↔ ∃ i, i < Q.length ∧ now.getD i false = true ∧ Acc Q i s)
 | [], now, st, hl, hc => by
  constructor
  ·intro h
   have h0 := hE.1
   exact ⟨Q.length - 1, by omega, h, .fin (by omega) ((hE.2 _ (by omega)).2 rfl)⟩
  ·rintro ⟨i, hi, h1, h2⟩
   obtain ⟨j, hj, h7, hn⟩ := h2.inv_nil hc rfl h1
   rw [(hE.2 j hj).1 h7] at hn
   exact hn
 | c :: r, now, st, hl, hc => by
  obtain ⟨nx, any, st2, h1, h2, h3, h4, h5⟩ := runIter now c hW hF st Q.length (Nat.le_refl _)
  have hB : runB Q F c now st = (nx, any, st2) := h1
  rw [runS, hB]
  have back : (∃ i, i < Q.length ∧ now.getD i false = true ∧ Acc Q i (c :: r)) ↔ ∃ i, i < Q.length ∧ nx.getD i false = true ∧ Acc Q i r := by
   constructor
   ·rintro ⟨i, hi, k1, k2⟩
    obtain ⟨j, hj, m1, m2, m3⟩ := k2.inv_cons hc rfl k1
    exact ⟨_, tgt_lt hW hj m2, (h4 j hj m1 m2).1, m3⟩
   ·rintro ⟨i, hi, k1, k2⟩
    obtain ⟨j, hj, m1, m2, m3⟩ := h5 i k1
    exact ⟨j, hj, m1, .eat hj m2 (k2.reach hW (tgt_lt hW hj m2) m3)⟩
  rw [back]
  cases any with
  | true => exact runS_iff hW hE hF r nx st2 h2 h3
  | false =>
   have none : ∀ x, ¬ nx.getD x false = true := fun x hx => by
    obtain ⟨j, hj, m1, m2, m3⟩ := h5 x hx
    have := (h4 j hj m1 m2).2
    cases this
   constructor
   ·intro h; exact absurd h (none _)
   ·rintro ⟨i, _, h, _⟩; exact absurd h (none i)
theorem run_iff {Q : List Pl} (hW : WF Q) (hE : End7 Q) (s : List UInt8) : (run Q s).1.getD (Q.length - 1) false = true ↔ Acc Q 0 s := by
 have h0 := hE.1
 have hu : unset (List.replicate Q.length false) ≤ (List.replicate Q.length false).length := List.countP_le_length
 rw [List.length_replicate] at hu
 have h1 := addP_cl hW (Q.length + 1) (List.replicate Q.length false) 0 (by simp) h0 (by omega)
 unfold run
 rw [runS_iff hW hE (Nat.lt_succ_self _) s _ 1 (by rw [← h1.1.1.1]; simp) ((Closed.rep _ _).cl h1.1)]
 constructor
 ·rintro ⟨i, hi, k1, k2⟩
  rcases addP_sound _ _ _ _ k1 with h | h
  ·rw [getD_rep] at h; cases h
  ·exact k2.reach hW h0 h
 ·intro h; exact ⟨0, h0, h1.2, h⟩
end Pat
namespace Pat
set_option linter.unusedVariables false
set_option linter.unusedSimpArgs false
open Go Gk Pt
abbrev Lang := List UInt8 → Prop
def unit (k c : Int) : Lang := fun u => if k = 2 ∨ k = 3 then ∀ x ∈ u, fitsP k c x = true else ∃ x, u = [x] ∧ fitsP k c x = true
def cat (A B : Lang) : Lang := fun s => ∃ u v, s = u ++ v ∧ A u ∧ B v
theorem cat_assoc (A B C : Lang) (s : List UInt8) : cat (cat A B) C s ↔ cat A (cat B C) s := by
 constructor
 ·rintro ⟨u, v, rfl, ⟨a, b, rfl, h1, h2⟩, h3⟩
  exact ⟨a, b ++ v, by simp, h1, b, v, rfl, h2, h3⟩
 ·rintro ⟨a, w, rfl, h1, b, v, rfl, h2, h3⟩
  exact ⟨a ++ b, v, by simp, ⟨a, b, rfl, h1, h2⟩, h3⟩
theorem cat_congr {A A' B B' : Lang} (h : ∀ s, A s ↔ A' s) (k : ∀ s, B s ↔ B' s) (s : List UInt8) : cat A B s ↔ cat A' B' s := by
 constructor
 ·rintro ⟨u, v, e, h1, h2⟩; exact ⟨u, v, e, (h u).1 h1, (k v).1 h2⟩
 ·rintro ⟨u, v, e, h1, h2⟩; exact ⟨u, v, e, (h u).2 h1, (k v).2 h2⟩
theorem cat_or (A B C : Lang) (s : List UInt8) : cat (fun s => A s ∨ B s) C s ↔ cat A C s ∨ cat B C s := by
 constructor
 ·rintro ⟨u, v, e, h | h, h2⟩
  ·exact .inl ⟨u, v, e, h, h2⟩
  ·exact .inr ⟨u, v, e, h, h2⟩
 ·rintro (⟨u, v, e, h, h2⟩ | ⟨u, v, e, h, h2⟩)
  ·exact ⟨u, v, e, .inl h, h2⟩
  ·exact ⟨u, v, e, .inr h, h2⟩
theorem cat_nil (B : Lang) (s : List UInt8) : cat (fun u => u = []) B s ↔ B s := by
 constructor
 ·rintro ⟨u, v, rfl, rfl, h⟩; exact h
 ·intro h; exact ⟨[], s, rfl, rfl, h⟩
def sem : Pt → Lang × Lang
 | .nil => (fun s => s = [], fun _ => False)
 | .lit k c r => (cat (unit k c) (sem r).1, (sem r).2)
 | .bar r => (fun s => s = [], fun s => (sem r).1 s ∨ (sem r).2 s)
 | .grp b r => (cat (fun s => (sem b).1 s ∨ (sem b).2 s) (sem r).1, (sem r).2)
theorem sem_app : ∀ (p q : Pt), p.flat → ∀ s, (sem (p.app q)).1 s ↔ cat (sem p).1 (sem q).1 s
 | .nil, q, _, s => (cat_nil _ s).symm
 | .lit k c r, q, h, s => (cat_congr (fun _ => Iff.rfl) (sem_app r q h) s).trans (cat_assoc _ _ _ s).symm
 | .bar _, _, h, _ => h.elim
 | .grp b r, q, h, s => (cat_congr (fun _ => Iff.rfl) (sem_app r q h) s).trans (cat_assoc _ _ _ s).symm
theorem sem_flat2 : ∀ (p : Pt), p.flat → ∀ s, ¬ (sem p).2 s
 | .nil, _, _ => id
 | .lit _ _ r, h, s => sem_flat2 r h s
 | .bar _, h, _ => h.elim
 | .grp _ r, h, s => sem_flat2 r h s
namespace Pt
def ok : Pt → Prop
 | nil => True
 | lit k _ r => (0 ≤ k ∧ k ≤ 3) ∧ ok r
 | bar r => ok r
 | grp b r => ok b ∧ ok r
end Pt
theorem Rep.ok {l : List UInt8} {p : Pt} (h : Rep l p) : p.ok := by
 induction h with
 | nil => trivial
 | one _ ih => exact ⟨⟨by decide, by decide⟩, ih⟩
 | all _ ih => exact ⟨⟨by decide, by decide⟩, ih⟩
 | few _ _ ih => exact ⟨⟨by decide, by decide⟩, ih⟩
 | grp _ _ h1 h2 => exact ⟨h1, h2⟩
 | bar _ ih => exact ih
 | esc c _ ih => exact ⟨⟨by decide, by decide⟩, ih⟩
 | byte c _ _ _ _ _ _ _ ih => exact ⟨⟨by decide, by decide⟩, ih⟩
theorem Rep.len {l : List UInt8} {p : Pt} (h : Rep l p) : p.len ≤ l.length := by
 induction h <;> simp [Pt.len] at * <;> omega
theorem tos_len : ∀ (p : Pt) (n : Nat), (tos p n).length ≤ p.len
 | .nil, _ => by simp [tos]
 | .lit _ _ r, n => by have := tos_len r (n + 1); simp [tos, len]; omega
 | .bar r, n => by have := tos_len r (n + 1); simp [tos, len]; omega
 | .grp b r, n => by have := tos_len r (n + 2 + len b); simp [tos, len]; omega
theorem tos_in : ∀ (p : Pt) (n : Nat) (t : Int), t ∈ tos p n → (n : Int) < t ∧ t ≤ n + p.len
 | .nil, _, _, h => by simp [tos] at h
 | .lit _ _ r, n, t, h => by have := tos_in r (n + 1) t h; simp [len]; omega
 | .bar r, n, t, h => by
  simp only [tos, List.mem_cons] at h
  rcases h with rfl | h
  ·simp [len]; omega
  ·have := tos_in r (n + 1) t h; simp [len]; omega
 | .grp b r, n, t, h => by have := tos_in r (n + 2 + len b) t h; simp [len]; omega
theorem pls_all : ∀ (p : Pt) (es : List Int) (n N : Nat), p.ok → n + p.len < N → (∀ t ∈ es, 0 ≤ t ∧ t < (N : Int)) → es.length ≤ N → ∀ q ∈ pls es p n, (∀ t ∈ q.2.2, 0 ≤ t ∧ t < (N : Int)) ∧ (0 ≤ q.1 ∧ q.1 ≤ 6) ∧ q.2.2.length ≤ N
 | .nil, _, _, _, _, _, _, _, q, h => by simp [pls] at h
 | .lit k c r, es, n, N, ho, hl, he, hc, q, h => by
  simp only [len] at hl
  simp only [pls, List.mem_cons] at h
  rcases h with rfl | h
  ·exact ⟨by simp, ⟨ho.1.1, by have := ho.1.2; simp only; omega⟩, by simp⟩
  ·exact pls_all r es (n + 1) N ho.2 (by omega) he hc q h
 | .bar r, es, n, N, ho, hl, he, hc, q, h => by
  simp only [len] at hl
  simp only [pls, List.mem_cons] at h
  rcases h with rfl | h
  ·exact ⟨he, ⟨by simp, by simp⟩, hc⟩
  ·exact pls_all r es (n + 1) N ho (by omega) he hc q h
 | .grp b r, es, n, N, ho, hl, he, hc, q, h => by
  simp only [len] at hl
  simp only [pls, List.mem_cons, List.mem_append] at h
  rcases h with rfl | h | rfl | h
  ·exact ⟨fun t ht => by have := tos_in b (n + 1) t ht; omega, ⟨by simp, by simp⟩, by have := tos_len b (n + 1); simp only; omega⟩
  ·exact pls_all b _ (n + 1) N ho.1 (by omega) (fun t ht => by simp at ht; omega) (by simp; omega) q h
  ·exact ⟨by simp, ⟨by simp, by simp⟩, by simp⟩
  ·exact pls_all r es (n + 2 + len b) N ho.2 (by omega) he hc q h
def placesOf (p : Pt) : List Pl := pls [] p 0 ++ [(7, 0, [])]
theorem placesOf_len (p : Pt) : (placesOf p).length = p.len + 1 := by simp [placesOf, pls_len]
theorem placesOf_wf {p : Pt} (ho : p.ok) : WF (placesOf p) ∧ End7 (placesOf p) := by
 have hl := placesOf_len p
 have hall : ∀ (i : Nat) (q : Pl), (placesOf p)[i]? = some q → (i < p.len ∧ q ∈ pls [] p 0) ∨ (i = p.len ∧ q = (7, 0, [])) := by
  intro i q h
  unfold placesOf at h
  rcases Nat.lt_or_ge i p.len with hi | hi
  ·rw [List.getElem?_append_left (by rw [pls_len]; exact hi)] at h
   exact .inl ⟨hi, List.mem_of_getElem? h⟩
  ·rw [List.getElem?_append_right (by rw [pls_len]; exact hi), pls_len] at h
   by_cases e : i = p.len
   ·subst e; simp at h; exact .inr ⟨rfl, h.symm⟩
   ·rw [List.getElem?_eq_none (by simp; omega)] at h; cases h
 refine ⟨fun i q h => ?_, by omega, fun j hj => ?_⟩
 ·rw [hl]
  rcases hall i q h with ⟨hi, hm⟩ | ⟨hi, rfl⟩
  ·obtain ⟨h1, h2, h3⟩ := pls_all p [] 0 (p.len + 1) ho (by omega) (by simp) (by simp) q hm
   exact ⟨h1, fun _ => by omega, ⟨h2.1, by omega⟩, fun _ => by omega, h3⟩
  ·exact ⟨by simp, by simp [skips], ⟨by simp, by simp⟩, by simp, by simp⟩
 ·have e : (placesOf p)[j]? = some ((placesOf p).getD j (7, 0, [])) := by simp [List.getD_eq_getElem?_getD, hj]
  rcases hall j _ e with ⟨hi, hm⟩ | ⟨hi, e2⟩
  ·obtain ⟨h1, h2, h3⟩ := pls_all p [] 0 (p.len + 1) ho (by omega) (by simp) (by simp) _ hm
   constructor
   ·intro h; omega
   ·intro h; omega
  ·rw [e2]; simp; omega
def Seg (Q : List Pl) (n : Nat) (L : List Pl) : Prop := ∀ (i : Nat) (q : Pl), L[i]? = some q → Q[n + i]? = some q
theorem Seg.head {Q : List Pl} {n : Nat} {q : Pl} {L : List Pl} (h : Seg Q n (q :: L)) : Q[n]? = some q := h 0 q rfl
theorem Seg.tail {Q : List Pl} {n : Nat} {q : Pl} {L : List Pl} (h : Seg Q n (q :: L)) : Seg Q (n + 1) L := fun i x hx => by
 rw [show n + 1 + i = n + (i + 1) by omega]; exact h (i + 1) x (by simpa using hx)
theorem Seg.left {Q : List Pl} {n : Nat} {L M : List Pl} (h : Seg Q n (L ++ M)) : Seg Q n L := fun i x hx => h i x (by rw [List.getElem?_append_left (List.getElem?_eq_some_iff.1 hx).1]; exact hx)
theorem Seg.right {Q : List Pl} {n : Nat} {L M : List Pl} (h : Seg Q n (L ++ M)) : Seg Q (n + L.length) M := fun i x hx => by
 rw [Nat.add_assoc]; exact h (L.length + i) x (by rw [List.getElem?_append_right (by omega)]; simpa using hx)
theorem acc_at {Q : List Pl} {i : Nat} {k c : Int} {tz : List Int} (h : Q[i]? = some (k, c, tz)) (s : List UInt8) :
  Acc Q i s ↔ (k = 7 ∧ s = []) ∨ (skips k = true ∧ Acc Q (i + 1) s) ∨ (∃ t ∈ tz, Acc Q t.toNat s) ∨ (∃ x r, s = x :: r ∧ fitsP k c x = true ∧ Acc Q (bif (k == 2) || (k == 3) then i else i + 1) r) := by
 have hi : i < Q.length := (List.getElem?_eq_some_iff.1 h).1
 have e : Q.getD i (7, 0, []) = (k, c, tz) := by rw [List.getD_eq_getElem?_getD, h]; rfl
 constructor
 ·intro ha
  cases ha with
  | fin _ h7 => rw [e] at h7; exact .inl ⟨h7, rfl⟩
  | go _ hs ha =>
   rcases hs with ⟨h1, rfl⟩ | ⟨t, ht, rfl⟩
   ·rw [e] at h1; exact .inr (.inl ⟨h1, ha⟩)
   ·rw [e] at ht; exact .inr (.inr (.inl ⟨t, ht, ha⟩))
  | eat _ hf ha => rw [e] at hf ha; exact .inr (.inr (.inr ⟨_, _, rfl, hf, ha⟩))
 ·rintro (⟨h7, rfl⟩ | ⟨h1, ha⟩ | ⟨t, ht, ha⟩ | ⟨x, r, rfl, hf, ha⟩)
  ·exact .fin hi (by rw [e]; exact h7)
  ·exact .go hi (.inl ⟨by rw [e]; exact h1, rfl⟩) ha
  ·exact .go hi (.inr ⟨t, by rw [e]; exact ht, rfl⟩) ha
  ·exact .eat hi (by rw [e]; exact hf) (by rw [e]; exact ha)
theorem acc_lit {Q : List Pl} {n : Nat} {k c : Int} (h : Q[n]? = some (k, c, [])) (hk : 0 ≤ k ∧ k ≤ 3) : ∀ s, Acc Q n s ↔ cat (unit k c) (Acc Q (n + 1)) s := by
 have h7 : ¬ k = 7 := by omega
 by_cases h23 : k = 2 ∨ k = 3
 ·have hs : skips k = true := by rcases h23 with rfl | rfl <;> rfl
  have hb : ((k == 2) || (k == 3)) = true := by rcases h23 with rfl | rfl <;> rfl
  intro s
  induction s with
  | nil =>
   rw [acc_at h]
   constructor
   ·rintro (⟨h, _⟩ | ⟨_, ha⟩ | ⟨t, ht, _⟩ | ⟨x, r, e, _⟩)
    ·exact absurd h h7
    ·exact ⟨[], [], rfl, by simp [unit, h23], ha⟩
    ·simp at ht
    ·cases e
   ·rintro ⟨u, v, e, _, ha⟩
    obtain ⟨rfl, rfl⟩ := List.append_eq_nil_iff.1 e.symm
    exact .inr (.inl ⟨hs, ha⟩)
  | cons y s ih =>
   rw [acc_at h, hb]
   simp only [cond_true]
   constructor
   ·rintro (⟨h, _⟩ | ⟨_, ha⟩ | ⟨t, ht, _⟩ | ⟨x, r, e, hf, ha⟩)
    ·exact absurd h h7
    ·exact ⟨[], y :: s, rfl, by simp [unit, h23], ha⟩
    ·simp at ht
    ·injection e with e1 e2
     subst e1; subst e2
     obtain ⟨u, v, rfl, hu, hv⟩ := ih.1 ha
     refine ⟨y :: u, v, rfl, ?_, hv⟩
     unfold unit at hu ⊢
     rw [if_pos h23] at hu ⊢
     intro z hz
     rcases List.mem_cons.1 hz with rfl | hz
     ·exact hf
     ·exact hu z hz
   ·rintro ⟨u, v, e, hu, ha⟩
    cases u with
    | nil => exact .inr (.inl ⟨hs, by rw [e]; exact ha⟩)
    | cons z u =>
     injection e with e1 e2
     subst e1; subst e2
     unfold unit at hu
     rw [if_pos h23] at hu
     refine .inr (.inr (.inr ⟨y, u ++ v, rfl, hu y (by simp), ih.2 ⟨u, v, rfl, ?_, ha⟩⟩))
     unfold unit
     rw [if_pos h23]
     exact fun z hz => hu z (by simp [hz])
 ·have hs : skips k = false := by
   have h2 : k = 0 ∨ k = 1 := by omega
   rcases h2 with rfl | rfl <;> rfl
  have hb : ((k == 2) || (k == 3)) = false := by
   have h2 : k = 0 ∨ k = 1 := by omega
   rcases h2 with rfl | rfl <;> rfl
  intro s
  rw [acc_at h, hb, hs]
  simp only [cond_false]
  constructor
  ·rintro (⟨h, _⟩ | ⟨h, _⟩ | ⟨t, ht, _⟩ | ⟨x, r, rfl, hf, ha⟩)
   ·exact absurd h h7
   ·cases h
   ·simp at ht
   ·exact ⟨[x], r, rfl, by unfold unit; rw [if_neg h23]; exact ⟨x, rfl, hf⟩, ha⟩
  ·rintro ⟨u, v, rfl, hu, ha⟩
   unfold unit at hu
   rw [if_neg h23] at hu
   obtain ⟨x, rfl, hf⟩ := hu
   exact .inr (.inr (.inr ⟨x, v, rfl, hf, ha⟩))
theorem acc_sem {Q : List Pl} : ∀ (p : Pt) (es : List Int) (n : Nat), p.ok → Seg Q n (pls es p n) → (p.flat ∨ es = [((n + p.len : Nat) : Int)]) →
  (∀ s, Acc Q n s ↔ cat (sem p).1 (Acc Q (n + p.len)) s) ∧ (∀ s, (∃ t ∈ tos p n, Acc Q t.toNat s) ↔ cat (sem p).2 (Acc Q (n + p.len)) s)
 | .nil, es, n, _, _, _ => by
  refine ⟨fun s => (cat_nil _ s).symm, fun s => ⟨fun ⟨t, ht, _⟩ => by simp [tos] at ht, fun ⟨_, _, _, h, _⟩ => h.elim⟩⟩
 | .lit k c r, es, n, ho, hseg, hf => by
  rw [pls] at hseg
  have ih := acc_sem r es (n + 1) ho.2 hseg.tail (by rcases hf with h | h; exact .inl h; right; rw [h]; congr 1; simp only [len]; omega)
  rw [show n + 1 + r.len = n + (Pt.lit k c r).len by simp only [len]; omega] at ih
  refine ⟨fun s => ?_, ih.2⟩
  rw [acc_lit hseg.head ho.1]
  exact (cat_congr (fun _ => Iff.rfl) ih.1 s).trans (cat_assoc _ _ _ s).symm
 | .bar r, es, n, ho, hseg, hf => by
  have he : es = [((n + (Pt.bar r).len : Nat) : Int)] := by rcases hf with h | h; exact h.elim; exact h
  rw [pls] at hseg
  have ih := acc_sem r es (n + 1) ho hseg.tail (by right; rw [he]; congr 1; simp only [len]; omega)
  rw [show n + 1 + r.len = n + (Pt.bar r).len by simp only [len]; omega] at ih
  refine ⟨fun s => ?_, fun s => ?_⟩
  ·rw [acc_at hseg.head]
   refine Iff.trans ?_ (cat_nil _ s).symm
   constructor
   ·rintro (⟨h, _⟩ | ⟨h, _⟩ | ⟨t, ht, ha⟩ | ⟨x, r, rfl, hf, ha⟩)
    ·cases h
    ·cases h
    ·rw [he] at ht; simp only [List.mem_singleton] at ht; subst ht; exact ha
    ·cases hf
   ·intro h; exact .inr (.inr (.inl ⟨((n + (Pt.bar r).len : Nat) : Int), by rw [he]; simp, h⟩))
  ·refine Iff.trans ?_ (cat_or _ _ _ s).symm
   rw [← ih.1, ← ih.2]
   constructor
   ·rintro ⟨t, ht, ha⟩
    simp only [tos, List.mem_cons] at ht
    rcases ht with rfl | ht
    ·left; rw [show ((n : Int) + 1).toNat = n + 1 by omega] at ha; exact ha
    ·exact .inr ⟨t, ht, ha⟩
   ·rintro (ha | ⟨t, ht, ha⟩)
    ·exact ⟨(n : Int) + 1, by simp [tos], by rw [show ((n : Int) + 1).toNat = n + 1 by omega]; exact ha⟩
    ·exact ⟨t, by simp [tos, ht], ha⟩
 | .grp b r, es, n, ho, hseg, hf => by
  rw [pls] at hseg
  have h1 := hseg.tail.right
  rw [pls_len] at h1
  have hb := acc_sem b [((n + 1 + len b : Nat) : Int)] (n + 1) ho.1 hseg.tail.left (.inr rfl)
  have hr := acc_sem r es (n + 2 + len b) ho.2 (by have := h1.tail; rw [show n + 1 + b.len + 1 = n + 2 + b.len by omega] at this; exact this) (by rcases hf with h | h; exact .inl h; right; rw [h]; congr 1; simp only [len]; omega)
  rw [show n + 2 + b.len + r.len = n + (Pt.grp b r).len by simp only [len]; omega] at hr
  have hc : ∀ s, Acc Q (n + 1 + b.len) s ↔ cat (sem r).1 (Acc Q (n + (Pt.grp b r).len)) s := by
   intro s
   rw [acc_at h1.head, ← hr.1, show n + 1 + b.len + 1 = n + 2 + b.len by omega]
   constructor
   ·rintro (⟨h, _⟩ | ⟨_, h⟩ | ⟨t, ht, ha⟩ | ⟨x, r, rfl, hf, ha⟩)
    ·cases h
    ·exact h
    ·simp at ht
    ·cases hf
   ·intro h; exact .inr (.inl ⟨rfl, h⟩)
  refine ⟨fun s => ?_, hr.2⟩
  rw [acc_at hseg.head]
  refine Iff.trans ?_ (cat_assoc _ _ _ s).symm
  refine Iff.trans ?_ (cat_or _ _ _ s).symm
  have e1 := (hb.1 s).trans (cat_congr (fun _ => Iff.rfl) hc s)
  have e2 := (hb.2 s).trans (cat_congr (fun _ => Iff.rfl) hc s)
  rw [← e1, ← e2]
  constructor
  ·rintro (⟨h, _⟩ | ⟨_, h⟩ | h | ⟨x, r, rfl, hf, ha⟩)
   ·cases h
   ·exact .inl h
   ·exact .inr h
   ·cases hf
  ·rintro (h | h)
   ·exact .inr (.inl ⟨rfl, h⟩)
   ·exact .inr (.inr (.inl h))
theorem run_sem {p : Pt} (ho : p.ok) (hf : p.flat) (s : List UInt8) : (run (placesOf p) s).1.getD ((placesOf p).length - 1) false = true ↔ (sem p).1 s := by
 obtain ⟨hW, hE⟩ := placesOf_wf ho
 rw [run_iff hW hE]
 have h := (acc_sem (Q := placesOf p) p [] 0 ho (fun i q h => by rw [Nat.zero_add, placesOf, List.getElem?_append_left (List.getElem?_eq_some_iff.1 h).1]; exact h) (.inl hf)).1 s
 rw [h, Nat.zero_add]
 have hl : (placesOf p)[p.len]? = some (7, 0, []) := by rw [placesOf, List.getElem?_append_right (by rw [pls_len]; omega), pls_len]; simp
 have he : ∀ v, Acc (placesOf p) p.len v ↔ v = [] := by
  intro v
  rw [acc_at hl]
  constructor
  ·rintro (⟨_, h⟩ | ⟨h, _⟩ | ⟨t, ht, _⟩ | ⟨x, r, rfl, hf, _⟩)
   ·exact h
   ·cases h
   ·simp at ht
   ·cases hf
  ·intro h; exact .inl ⟨rfl, h⟩
 constructor
 ·rintro ⟨u, v, rfl, h1, h2⟩
  rw [(he v).1 h2, List.append_nil]; exact h1
 ·intro h; exact ⟨s, [], by simp, h, (he []).2 rfl⟩
end Pat
namespace Pat
set_option linter.unusedVariables false
set_option linter.unusedSimpArgs false
open Go Gk Pt
def mat (Q : List Pl) (s : List UInt8) : Bool := (run Q s).1.getD (Q.length - 1) false
theorem mat_sem {l : List UInt8} {Q : List Pl} (h : cmp l = .ok Q) {p : Pt} (hr : Rep l p) (hf : p.flat) (s : List UInt8) : mat Q s = true ↔ (sem p).1 s := by
 have hl := (cmp_ok h).1
 have hd : p.dep ≤ 4 := by
  refine Nat.le_of_not_lt fun hd => cmp_deep hr hf hd Q h
 rw [cmp_of hr hf hl hd] at h
 injection h with h
 subst h
 exact run_sem hr.ok hf s
end Pat
namespace Pat
set_option linter.unusedVariables false
set_option linter.unusedSimpArgs false
open Go Gk Pt
def mtch (l s : List UInt8) : Bool × Bool := match cmp l with
 | .ok Q => (mat Q s, true)
 | .error _ => (false, false)
theorem mt_ok {l s : List UInt8} (h : (mtch l s).2 = true) : ∃ p, Rep l p ∧ p.flat ∧ p.dep ≤ 4 ∧ l.length ≤ 200 ∧ ∀ t, (mtch l t).2 = true ∧ ((mtch l t).1 = true ↔ (sem p).1 t) := by
 unfold mtch at h
 cases hq : cmp l with
 | error e => rw [hq] at h; cases h
 | ok Q =>
  obtain ⟨hl, p, h1, h2, h3, _⟩ := cmp_ok hq
  refine ⟨p, h1, h2, h3, hl, fun t => ?_⟩
  unfold mtch
  rw [hq]
  exact ⟨rfl, mat_sem hq h1 h2 t⟩
theorem sem_app2 : ∀ (p q : Pt), p.flat → (sem (p.app q)).2 = (sem q).2
 | .nil, _, _ => rfl
 | .lit _ _ r, q, h => sem_app2 r q h
 | .bar _, _, h => h.elim
 | .grp _ r, q, h => sem_app2 r q h
theorem cat_end (A : Lang) (s : List UInt8) : cat A (fun u => u = []) s ↔ A s := by
 constructor
 ·rintro ⟨u, v, rfl, h, rfl⟩; rw [List.append_nil]; exact h
 ·intro h; exact ⟨s, [], by simp, h, rfl⟩
end Pat
namespace Pat
set_option linter.unusedVariables false
set_option linter.unusedSimpArgs false
open Go Gk Pt
def seg (s : List UInt8) (i j : Nat) : List UInt8 := (s.drop i).take (j - i)
theorem seg_self (s : List UInt8) (i : Nat) : seg s i i = [] := by simp [seg]
theorem seg_succ (s : List UInt8) {i j : Nat} (hi : i ≤ j) (hj : j < s.length) : seg s i (j + 1) = seg s i j ++ [at_ s (j : Int)] := by
 unfold seg
 rw [show j + 1 - i = (j - i) + 1 by omega, List.take_succ_eq_append_getElem (by simp; omega)]
 congr 1
 simp [at_, List.getD_eq_getElem?_getD, show i + (j - i) = j by omega, hj]
theorem seg_split (s : List UInt8) {i m j : Nat} (h1 : i ≤ m) (h2 : m ≤ j) (hj : j ≤ s.length) : seg s i j = seg s i m ++ seg s m j := by
 unfold seg
 rw [show j - i = (m - i) + (j - m) by omega, List.take_add, List.drop_drop, show i + (m - i) = m by omega]
theorem seg_len (s : List UInt8) {i j : Nat} (hi : i ≤ j) (hj : j ≤ s.length) : (seg s i j).length = j - i := by simp [seg]; omega
theorem seg_cut (s : List UInt8) {i j : Nat} {u v : List UInt8} (hi : i ≤ j) (hj : j ≤ s.length) (h : seg s i j = u ++ v) : u = seg s i (i + u.length) ∧ v = seg s (i + u.length) j ∧ i + u.length ≤ j := by
 have hl := congrArg List.length h
 rw [seg_len s hi hj, List.length_append] at hl
 have hm : i + u.length ≤ j := by omega
 rw [seg_split s (Nat.le_add_right i u.length) hm hj] at h
 have := List.append_inj h (by rw [seg_len s (by omega) (by omega)]; omega)
 exact ⟨this.1.symm, this.2.symm, hm⟩
def EndsAt (s : List UInt8) (fr : List Bool) (L : Lang) (R : List Bool) : Prop := R.length = s.length + 1 ∧ ∀ j, j ≤ s.length → (R.getD j false = true ↔ ∃ i, i ≤ j ∧ fr.getD i false = true ∧ L (seg s i j))
theorem EndsAt.congr {s : List UInt8} {fr R : List Bool} {L M : Lang} (h : EndsAt s fr L R) (e : ∀ u, L u ↔ M u) : EndsAt s fr M R :=
 ⟨h.1, fun j hj => (h.2 j hj).trans ⟨fun ⟨i, a, b, c⟩ => ⟨i, a, b, (e _).1 c⟩, fun ⟨i, a, b, c⟩ => ⟨i, a, b, (e _).2 c⟩⟩⟩
theorem EndsAt.nil {s : List UInt8} {fr : List Bool} (h : fr.length = s.length + 1) : EndsAt s fr (fun u => u = []) fr := by
 refine ⟨h, fun j hj => ⟨fun h => ⟨j, Nat.le_refl _, h, seg_self s j⟩, ?_⟩⟩
 rintro ⟨i, h1, h2, h3⟩
 have := seg_len s h1 hj
 rw [h3] at this
 have e : i = j := by simp at this; omega
 subst e; exact h2
theorem EndsAt.cat {s : List UInt8} {fr R1 R2 : List Bool} {A B : Lang} (h : EndsAt s fr A R1) (k : EndsAt s R1 B R2) : EndsAt s fr (cat A B) R2 := by
 refine ⟨k.1, fun j hj => ?_⟩
 rw [k.2 j hj]
 constructor
 ·rintro ⟨m, h1, h2, h3⟩
  obtain ⟨i, h4, h5, h6⟩ := (h.2 m (by omega)).1 h2
  exact ⟨i, by omega, h5, _, _, seg_split s h4 h1 hj, h6, h3⟩
 ·rintro ⟨i, h1, h2, u, v, h3, h4, h5⟩
  obtain ⟨e1, e2, e3⟩ := seg_cut s h1 hj h3
  refine ⟨i + u.length, e3, (h.2 _ (by omega)).2 ⟨i, by omega, h2, ?_⟩, ?_⟩
  ·rw [← e1]; exact h4
  ·rw [← e2]; exact h5
def orAt (R1 : List Bool) (out : List Bool) (k : Nat) : List Bool := out.set k (out.getD k false || R1.getD k false)
theorem orAt_iter (R1 out : List Bool) : ∀ k, (iter (orAt R1) out k).length = out.length ∧ ∀ j, j < out.length → (iter (orAt R1) out k).getD j false = (out.getD j false || (decide (j < k) && R1.getD j false))
 | 0 => ⟨rfl, fun j _ => by simp [iter]⟩
 | k + 1 => by
  obtain ⟨h1, h2⟩ := orAt_iter R1 out k
  rw [iter]
  unfold orAt at h1 h2 ⊢
  refine ⟨by rw [List.length_set]; exact h1, fun j hj => ?_⟩
  rw [List.getD_eq_getElem?_getD, List.getElem?_set]
  by_cases e : k = j
  ·subst e
   simp only [if_true, h1, hj, Option.getD_some]
   rw [h2 k hj]
   simp
  ·simp only [e, if_false]
   rw [← List.getD_eq_getElem?_getD, h2 j hj]
   have : decide (j < k + 1) = decide (j < k) := by simp; omega
   rw [this]
theorem EndsAt.or {s : List UInt8} {fr R1 R2 : List Bool} {A B : Lang} (h : EndsAt s fr A R1) (k : EndsAt s fr B R2) : EndsAt s fr (fun u => A u ∨ B u) (iter (orAt R2) R1 (s.length + 1)) := by
 obtain ⟨h1, h2⟩ := orAt_iter R2 R1 (s.length + 1)
 refine ⟨h1.trans h.1, fun j hj => ?_⟩
 rw [h2 j (by rw [h.1]; omega), Bool.or_eq_true, Bool.and_eq_true, decide_eq_true_eq, h.2 j hj, k.2 j hj]
 constructor
 ·rintro (⟨i, a, b, c⟩ | ⟨_, i, a, b, c⟩)
  ·exact ⟨i, a, b, .inl c⟩
  ·exact ⟨i, a, b, .inr c⟩
 ·rintro ⟨i, a, b, c | c⟩
  ·exact .inl ⟨i, a, b, c⟩
  ·exact .inr ⟨by omega, i, a, b, c⟩
theorem EndsAt.none (s : List UInt8) (fr : List Bool) : EndsAt s fr (fun _ => False) (List.replicate (s.length + 1) false) :=
 ⟨by simp, fun j hj => ⟨fun h => (by rw [getD_rep] at h; cases h), fun ⟨_, _, _, h⟩ => h.elim⟩⟩
def pj (s : List UInt8) (fr : List Bool) (kind : Int) (own : UInt8) (many : Bool) : Nat → Bool
 | 0 => many && fr.getD 0 false
 | j + 1 => (many && fr.getD (j + 1) false) || (takes kind own (at_ s (j : Int)) && (fr.getD j false || (many && pj s fr kind own many j)))
theorem getD_set_b (l : List Bool) (i j : Nat) (b : Bool) (hj : j < l.length) : (l.set i b).getD j false = bif i == j then b else l.getD j false := by
 rw [List.getD_eq_getElem?_getD, List.getElem?_set, List.getD_eq_getElem?_getD]
 by_cases e : i = j
 ·subst e; simp [hj]
 ·have e2 : (i == j) = false := by simpa using e
  rw [e2]; simp [e]
theorem ends_iter (s : List UInt8) (fr : List Bool) (kind : Int) (own : UInt8) (many : Bool) : ∀ k, k ≤ s.length + 1 → ∀ j, j ≤ s.length → (iter (endAt s fr kind own many) (List.replicate (s.length + 1) false) k).getD j false = (decide (j < k) && pj s fr kind own many j)
 | 0, _, j, _ => by rw [iter, getD_rep]; simp
 | k + 1, hk, j, hj => by
  have ih := ends_iter s fr kind own many k (by omega)
  have hl := endIter_length s fr kind own many (List.replicate (s.length + 1) false) k
  rw [List.length_replicate] at hl
  rw [iter, endAt]
  generalize iter (endAt s fr kind own many) (List.replicate (s.length + 1) false) k = o at ih hl
  have h1 : ∀ j, j ≤ s.length → (end1 fr many o k).getD j false = bif k == j then (many && fr.getD k false) else o.getD j false := fun j hj => by
   unfold end1
   rw [Int.toNat_natCast]
   cases hc : many && fr.getD k false with
   | true => simp only [cond_true]; rw [getD_set_b _ _ _ _ (by omega)]
   | false =>
    simp only [cond_false]
    by_cases e : k = j
    ·subst e; rw [ih k hj]; simp
    ·simp [e]
  have hl1 := end1_length fr many o k
  generalize end1 fr many o k = o1 at h1 hl1
  have hne : ∀ j, k ≠ j → (k == j) = false := fun j e => by simpa using e
  have hrest : ∀ j, j ≤ s.length → k ≠ j → (end2 s fr kind own many o1 k).getD j false = o.getD j false := fun j hj e => by
   unfold end2
   generalize (decide (0 < (k : Int)) && _) = c
   cases c
   ·simp only [cond_false]; rw [h1 j hj, hne j e]; rfl
   ·simp only [cond_true]; rw [getD_set_b _ _ _ _ (by omega), h1 j hj, Int.toNat_natCast, hne j e]; rfl
  by_cases e : k = j
  ·subst e
   have hself : (end2 s fr kind own many o1 k).getD k false = (o1.getD k false || (decide (0 < (k : Int)) && (takes kind own (at_ s ((k : Int) - 1)) && (fr.getD ((k : Int) - 1).toNat false || (many && o1.getD ((k : Int) - 1).toNat false))))) := by
    unfold end2
    rw [Int.toNat_natCast]
    generalize (decide (0 < (k : Int)) && _) = c
    cases c
    ·simp
    ·simp only [cond_true]; rw [getD_set_b _ _ _ _ (by omega)]; simp
   rw [hself, h1 k hj]
   cases k with
   | zero => simp [pj]
   | succ m =>
    have e1 : (((m + 1 : Nat) : Int) - 1) = (m : Int) := by omega
    rw [e1, Int.toNat_natCast, h1 m (by omega), ih m (by omega)]
    have hp : (0 : Int) < ((m + 1 : Nat) : Int) := by omega
    rw [hne m (by omega)]
    simp [pj]
  ·rw [hrest j hj e, ih j hj]
   have : decide (j < k + 1) = decide (j < k) := by simp; omega
   rw [this]
theorem ends_unit {s : List UInt8} {fr : List Bool} {kind k c : Int} {own : UInt8} {many : Bool} (hu : ∀ x, takes kind own x = fitsP k c x) (hm : many = true ↔ (k = 2 ∨ k = 3)) : EndsAt s fr (unit k c) (ends s fr kind own many) := by
 refine ⟨ends_length s fr kind own many, fun j hj => ?_⟩
 unfold ends
 rw [ends_iter s fr kind own many (s.length + 1) (Nat.le_refl _) j hj]
 have hd : decide (j < s.length + 1) = true := by simp; omega
 rw [hd, Bool.true_and]
 cases many with
 | true =>
  have hk := hm.1 rfl
  unfold unit
  simp only [hk, if_true]
  induction j with
  | zero =>
   simp only [pj, Bool.true_and]
   constructor
   ·intro h; exact ⟨0, Nat.le_refl _, h, by rw [seg_self]; simp⟩
   ·rintro ⟨i, h1, h2, _⟩
    obtain rfl : i = 0 := by omega
    exact h2
  | succ j ih =>
   have ih : pj s fr kind own true j = true ↔ ∃ i, i ≤ j ∧ fr.getD i false = true ∧ ∀ x, x ∈ seg s i j → fitsP k c x = true := ih (by omega) (by simp; omega)
   rw [pj, Bool.or_eq_true, Bool.and_eq_true, Bool.and_eq_true, Bool.or_eq_true, Bool.and_eq_true, ih, hu]
   constructor
   ·rintro (⟨_, h⟩ | ⟨h1, h2 | ⟨_, i, h3, h4, h5⟩⟩)
    ·exact ⟨j + 1, Nat.le_refl _, h, by rw [seg_self]; simp⟩
    ·refine ⟨j, by omega, h2, ?_⟩
     rw [seg_succ s (Nat.le_refl _) (by omega), seg_self]
     simpa using h1
    ·refine ⟨i, by omega, h4, ?_⟩
     rw [seg_succ s h3 (by omega)]
     intro x hx
     rcases List.mem_append.1 hx with hx | hx
     ·exact h5 x hx
     ·simp at hx; subst hx; exact h1
   ·rintro ⟨i, h1, h2, h3⟩
    by_cases e : i = j + 1
    ·subst e; exact .inl ⟨rfl, h2⟩
    ·rw [seg_succ s (by omega) (by omega)] at h3
     exact .inr ⟨h3 _ (by simp), .inr ⟨rfl, i, by omega, h2, fun x hx => h3 x (by simp [hx])⟩⟩
 | false =>
  have hk : ¬ (k = 2 ∨ k = 3) := fun h => by have := hm.2 h; cases this
  unfold unit
  simp only [hk, if_false]
  cases j with
  | zero =>
   simp only [pj, Bool.false_and]
   constructor
   ·intro h; cases h
   ·rintro ⟨i, h1, h2, x, h3, _⟩
    have := seg_len s h1 hj
    rw [h3] at this
    simp at this
  | succ j =>
   rw [pj]
   simp only [Bool.false_and, Bool.or_false, Bool.false_or, Bool.and_eq_true, hu]
   constructor
   ·rintro ⟨h1, h2⟩
    exact ⟨j, by omega, h2, at_ s (j : Int), by rw [seg_succ s (Nat.le_refl _) (by omega), seg_self]; rfl, h1⟩
   ·rintro ⟨i, h1, h2, x, h3, h4⟩
    have hl := seg_len s h1 hj
    rw [h3] at hl
    obtain rfl : i = j := by simp at hl; omega
    rw [seg_succ s (Nat.le_refl _) (by omega), seg_self] at h3
    simp at h3
    subst h3
    exact ⟨h4, h2⟩
end Pat
namespace Pat
set_option linter.unusedVariables false
set_option linter.unusedSimpArgs false
open Go Gk Pt
def barsGo : List UInt8 → Int → Int → List Int → List Int
 | [], _, _, out => out
 | c :: r, i, d, out =>
  if c.toNat = 92 then (match r with | [] => out | _ :: r' => barsGo r' (i + 2) d out)
  else if c.toNat = 40 then barsGo r (i + 1) (d + 1) out
  else if c.toNat = 124 then barsGo r (i + 1) d (if d = 1 then out ++ [i] else out)
  else if c.toNat = 41 then (if d - 1 = 0 then out ++ [i] else barsGo r (i + 1) (d - 1) out)
  else barsGo r (i + 1) d out
theorem barsGo_nil (i d : Int) (out : List Int) : barsGo [] i d out = out := by rw [barsGo.eq_def]
theorem barsGo_cons (c : UInt8) (r : List UInt8) (i d : Int) (out : List Int) : barsGo (c :: r) i d out =
  if c.toNat = 92 then (match r with | [] => out | _ :: r' => barsGo r' (i + 2) d out)
  else if c.toNat = 40 then barsGo r (i + 1) (d + 1) out
  else if c.toNat = 124 then barsGo r (i + 1) d (if d = 1 then out ++ [i] else out)
  else if c.toNat = 41 then (if d - 1 = 0 then out ++ [i] else barsGo r (i + 1) (d - 1) out)
  else barsGo r (i + 1) d out := by rw [barsGo.eq_def]
theorem barsGo_plain {c : UInt8} (h1 : c ≠ 92) (h2 : c ≠ 40) (h3 : c ≠ 124) (h4 : c ≠ 41) (r : List UInt8) (i d : Int) (out : List Int) : barsGo (c :: r) i d out = barsGo r (i + 1) d out := by
 rw [barsGo_cons, if_neg (show ¬ c.toNat = 92 from ne_toNat h1), if_neg (show ¬ c.toNat = 40 from ne_toNat h2), if_neg (show ¬ c.toNat = 124 from ne_toNat h3), if_neg (show ¬ c.toNat = 41 from ne_toNat h4)]
theorem bars_deep {t : List UInt8} {b : Pt} (h : Rep t b) : ∀ (rest : List UInt8) (i d : Int) (out : List Int), 2 ≤ d → barsGo (t ++ rest) i d out = barsGo rest (i + t.length) d out := by
 induction h with
 | nil => intro rest i d out _; simp
 | @one l p _ ih => intro rest i d out hd; rw [List.cons_append, barsGo_plain (by decide) (by decide) (by decide) (by decide), ih _ _ _ _ hd]; congr 1; simp; omega
 | @all l p _ ih => intro rest i d out hd; rw [List.cons_append, List.cons_append, barsGo_plain (by decide) (by decide) (by decide) (by decide), barsGo_plain (by decide) (by decide) (by decide) (by decide), ih _ _ _ _ hd]; congr 1; simp; omega
 | @few l p _ _ ih => intro rest i d out hd; rw [List.cons_append, barsGo_plain (by decide) (by decide) (by decide) (by decide), ih _ _ _ _ hd]; congr 1; simp; omega
 | @bar l p _ ih =>
  intro rest i d out hd
  rw [List.cons_append, barsGo_cons, if_neg (by decide), if_neg (by decide), if_pos (by decide), if_neg (by omega), ih _ _ _ _ hd]; congr 1; simp; omega
 | @esc l p c _ ih =>
  intro rest i d out hd
  rw [List.cons_append, List.cons_append, barsGo_cons, if_pos (by decide)]
  simp only
  rw [ih _ _ _ _ hd]; congr 1; simp; omega
 | @byte l p c h1 h2 h3 h4 h5 h6 _ ih => intro rest i d out hd; rw [List.cons_append, barsGo_plain h6 h3 h4 h5, ih _ _ _ _ hd]; congr 1; simp; omega
 | @grp t l b p _ _ ihb ih =>
  intro rest i d out hd
  rw [List.cons_append, List.append_assoc, List.cons_append, barsGo_cons, if_neg (by decide), if_pos (by decide), ihb _ _ _ _ (by omega), barsGo_cons, if_neg (by decide), if_neg (by decide), if_neg (by decide), if_pos (by decide), if_neg (by omega), show d + 1 - 1 = d by omega, ih _ _ _ _ hd]
  congr 1; simp; omega
inductive Alts : List UInt8 → Pt → Int → List Int → Prop
 | last {t b} (i : Int) : Rep t b → b.flat → Alts t b i []
 | more {t1 b1 t2 b2 ps} (i : Int) : Rep t1 b1 → b1.flat → Alts t2 b2 (i + t1.length + 1) ps → Alts (t1 ++ 124 :: t2) (b1.app (.bar b2)) i ((i + t1.length) :: ps)
theorem alts_len {t : List UInt8} {b : Pt} {i : Int} {ps : List Int} (h : Alts t b i ps) : ps.length ≤ t.length := by
 induction h with
 | last => simp
 | more _ _ _ _ ih => simp; omega
theorem Alts.pre {x t : List UInt8} {b : Pt} {i : Int} {ps : List Int} {f : Pt → Pt} (hf : ∀ p, p.flat → (f p).flat) (hfa : ∀ p q, f (p.app q) = (f p).app q) (h : Alts t b (i + x.length) ps) (hp : ∀ {t1 p}, (t1.head? = some 42 → t.head? = some 42) → Rep t1 p → Rep (x ++ t1) (f p)) : Alts (x ++ t) (f b) i ps := by
 cases h with
 | last _ h1 h2 => exact .last i (hp (fun h => h) h1) (hf _ h2)
 | @more t1 b1 t2 b2 ps _ h1 h2 h3 =>
  rw [← List.append_assoc, hfa]
  have e : i + (x.length : Int) + (t1.length : Int) = i + ((x ++ t1).length : Int) := by simp; omega
  rw [e] at h3 ⊢
  refine .more i (hp ?_ h1) (hf _ h2) h3
  intro e
  cases t1 with
  | nil => simp at e
  | cons y t1 => simpa using e
theorem alts {t : List UInt8} {b : Pt} (h : Rep t b) : ∀ (i : Int), ∃ ps, Alts t b i ps ∧ ∀ (rest : List UInt8) (out : List Int), barsGo (t ++ rest) i 1 out = barsGo rest (i + t.length) 1 (out ++ ps) := by
 induction h with
 | nil => intro i; exact ⟨[], .last i .nil trivial, fun rest out => by simp⟩
 | @one l p _ ih =>
  intro i
  obtain ⟨ps, h1, h2⟩ := ih (i + 1)
  refine ⟨ps, Alts.pre (x := [63]) (f := .lit 1 0) (fun _ h => h) (fun _ _ => rfl) h1 (fun _ h => .one h), fun rest out => ?_⟩
  rw [List.cons_append, barsGo_plain (by decide) (by decide) (by decide) (by decide), h2]; congr 1; simp; omega
 | @all l p _ ih =>
  intro i
  obtain ⟨ps, h1, h2⟩ := ih (i + 2)
  refine ⟨ps, Alts.pre (x := [42, 42]) (f := .lit 2 0) (fun _ h => h) (fun _ _ => rfl) h1 (fun _ h => .all h), fun rest out => ?_⟩
  rw [List.cons_append, List.cons_append, barsGo_plain (by decide) (by decide) (by decide) (by decide), barsGo_plain (by decide) (by decide) (by decide) (by decide), show i + 1 + 1 = i + 2 by omega, h2]; congr 1; simp; omega
 | @few l p hl _ ih =>
  intro i
  obtain ⟨ps, h1, h2⟩ := ih (i + 1)
  refine ⟨ps, Alts.pre (x := [42]) (f := .lit 3 0) (fun _ h => h) (fun _ _ => rfl) h1 (fun hd h => .few (fun e => hl (hd e)) h), fun rest out => ?_⟩
  rw [List.cons_append, barsGo_plain (by decide) (by decide) (by decide) (by decide), h2]; congr 1; simp; omega
 | @bar l p _ ih =>
  intro i
  obtain ⟨ps, h1, h2⟩ := ih (i + 1)
  refine ⟨i :: ps, ?_, fun rest out => ?_⟩
  ·have h3 := Alts.more (t1 := []) i .nil trivial (by simpa using h1)
   simpa [Pt.app] using h3
  ·rw [List.cons_append, barsGo_cons, if_neg (by decide), if_neg (by decide), if_pos (by decide), if_pos rfl, h2, List.append_assoc]; congr 1; simp; omega
 | @esc l p c _ ih =>
  intro i
  obtain ⟨ps, h1, h2⟩ := ih (i + 2)
  refine ⟨ps, Alts.pre (x := [92, c]) (f := .lit 0 (c.toNat : Int)) (fun _ h => h) (fun _ _ => rfl) h1 (fun _ h => .esc c h), fun rest out => ?_⟩
  rw [List.cons_append, List.cons_append, barsGo_cons, if_pos (by decide)]
  simp only
  rw [h2]; congr 1; simp; omega
 | @byte l p c k1 k2 k3 k4 k5 k6 _ ih =>
  intro i
  obtain ⟨ps, h1, h2⟩ := ih (i + 1)
  refine ⟨ps, Alts.pre (x := [c]) (f := .lit 0 (c.toNat : Int)) (fun _ h => h) (fun _ _ => rfl) h1 (fun _ h => .byte c k1 k2 k3 k4 k5 k6 h), fun rest out => ?_⟩
  rw [List.cons_append, barsGo_plain k6 k3 k4 k5, h2]; congr 1; simp; omega
 | @grp t l b p hb _ _ ih =>
  intro i
  have e : i + ((40 :: (t ++ [41])).length : Int) = i + 1 + t.length + 1 := by simp; omega
  obtain ⟨ps, h1, h2⟩ := ih (i + 1 + t.length + 1)
  refine ⟨ps, ?_, fun rest out => ?_⟩
  ·have h3 := Alts.pre (x := 40 :: (t ++ [41])) (f := .grp b) (fun _ h => h) (fun _ _ => rfl) (by rw [e]; exact h1) (fun {t1 p1} _ h => by have := Rep.grp hb h; simpa using this)
   simpa using h3
  ·rw [List.cons_append, List.append_assoc, List.cons_append, barsGo_cons, if_neg (by decide), if_pos (by decide), bars_deep hb _ _ _ _ (by omega), barsGo_cons, if_neg (by decide), if_neg (by decide), if_neg (by decide), if_pos (by decide), if_neg (by omega), show (1 : Int) + 1 - 1 = 1 by omega, h2]
   congr 1; simp; omega
theorem bars_grp {t : List UInt8} {b : Pt} (h : Rep t b) (rest : List UInt8) (i : Int) : ∃ ps, Alts t b (i + 1) ps ∧ barsGo (40 :: (t ++ 41 :: rest)) i 0 [] = ps ++ [i + 1 + t.length] := by
 obtain ⟨ps, h1, h2⟩ := alts h (i + 1)
 refine ⟨ps, h1, ?_⟩
 rw [barsGo_cons, if_neg (by decide), if_pos (by decide), Int.zero_add, h2, barsGo_cons, if_neg (by decide), if_neg (by decide), if_neg (by decide), if_pos (by decide), if_pos (by omega)]
 rfl
end Pat
namespace Pat
set_option linter.unusedVariables false
set_option linter.unusedSimpArgs false
open Go Gk Pt
def spc (c : UInt8) : Bool := ((((((c.toNat : Int) == 63) || ((c.toNat : Int) == 42)) || ((c.toNat : Int) == 40)) || ((c.toNat : Int) == 41)) || ((c.toNat : Int) == 124)) || ((c.toNat : Int) == 92)
def lit : List UInt8 → List UInt8
 | [] => []
 | c :: l => (bif spc c then [92, c] else [c]) ++ lit l
end Pat
namespace Pat
set_option linter.unusedVariables false
set_option linter.unusedSimpArgs false
open Go Gk Pt
section
variable {l : List UInt8} {k : Nat} {r : Pt}
theorem drop_split (hk : k < l.length) {c : UInt8} {t : List UInt8} (h : l.drop k = c :: t) : c = at_ l (k : Int) ∧ t = l.drop (k + 1) := by
 rw [drop_at l hk] at h
 injection h with h1 h2
 exact ⟨h1.symm, h2.symm⟩
theorem at_eq {n : UInt8} {m : Nat} (hn : n.toNat = m) (h : (at_ l (k : Int)).toNat = m) : at_ l (k : Int) = n := UInt8.toNat_inj.1 (by omega)
theorem inv_one (h : Rep (l.drop k) r) (hk : k < l.length) (hc : (at_ l (k : Int)).toNat = 63) : ∃ r', r = .lit 1 0 r' ∧ Rep (l.drop (k + 1)) r' := by
 have e := at_eq (n := 63) rfl hc
 rw [drop_at l hk, e] at h
 generalize l.drop (k + 1) = t at h
 generalize hx : (63 :: t : List UInt8) = x at h
 cases h with
 | nil => cases hx
 | one h => injection hx with _ h2; subst h2; exact ⟨_, rfl, h⟩
 | all => injection hx with h1; exact absurd h1 (by decide)
 | few => injection hx with h1; exact absurd h1 (by decide)
 | grp => injection hx with h1; exact absurd h1 (by decide)
 | bar => injection hx with h1; exact absurd h1 (by decide)
 | esc => injection hx with h1; exact absurd h1 (by decide)
 | byte c h1 => injection hx with h2; exact absurd h2.symm h1
theorem inv_star (h : Rep (l.drop k) r) (hk : k < l.length) (hc : (at_ l (k : Int)).toNat = 42) :
  (k + 1 < l.length ∧ at_ l ((k : Int) + 1) = 42 ∧ ∃ r', r = .lit 2 0 r' ∧ Rep (l.drop (k + 2)) r') ∨ ((k + 1 < l.length → at_ l ((k : Int) + 1) ≠ 42) ∧ ∃ r', r = .lit 3 0 r' ∧ Rep (l.drop (k + 1)) r') := by
 have e := at_eq (n := 42) rfl hc
 rw [drop_at l hk, e] at h
 generalize ht : l.drop (k + 1) = t at h
 generalize hx : (42 :: t : List UInt8) = x at h
 cases h with
 | nil => cases hx
 | one => injection hx with h1; exact absurd h1 (by decide)
 | @all t' r' h =>
  injection hx with _ h2; subst h2
  have hk1 : k + 1 < l.length := by
   apply Classical.byContradiction
   intro hn
   rw [List.drop_of_length_le (by omega)] at ht
   cases ht
  obtain ⟨a, b⟩ := drop_split hk1 ht
  subst b
  exact .inl ⟨hk1, a.symm, r', rfl, h⟩
 | @few t' r' hh h =>
  injection hx with _ h2; subst h2
  refine .inr ⟨fun hk1 => ?_, r', rfl, h⟩
  rw [← ht, drop_at l hk1] at hh
  intro e2
  exact hh (by rw [List.head?_cons]; exact congrArg _ e2)
 | grp => injection hx with h1; exact absurd h1 (by decide)
 | bar => injection hx with h1; exact absurd h1 (by decide)
 | esc => injection hx with h1; exact absurd h1 (by decide)
 | byte c _ h1 => injection hx with h2; exact absurd h2.symm h1
theorem inv_all (h : Rep (l.drop k) r) (hk : k < l.length) (hc : (at_ l (k : Int)).toNat = 42) (h2 : k + 1 < l.length ∧ (at_ l ((k : Int) + 1)).toNat = 42) : ∃ r', r = .lit 2 0 r' ∧ Rep (l.drop (k + 2)) r' := by
 rcases inv_star h hk hc with ⟨_, _, h⟩ | ⟨h3, _⟩
 ·exact h
 ·exact absurd (UInt8.toNat_inj.1 h2.2) (h3 h2.1)
theorem inv_few (h : Rep (l.drop k) r) (hk : k < l.length) (hc : (at_ l (k : Int)).toNat = 42) (h2 : ¬ (k + 1 < l.length ∧ (at_ l ((k : Int) + 1)).toNat = 42)) : ∃ r', r = .lit 3 0 r' ∧ Rep (l.drop (k + 1)) r' := by
 rcases inv_star h hk hc with ⟨h3, h4, _⟩ | ⟨_, h⟩
 ·exact absurd ⟨h3, by rw [h4]; rfl⟩ h2
 ·exact h
theorem rep_nil (h : Rep [] r) : r = .nil := by cases h; rfl
theorem inv_esc (h : Rep (l.drop k) r) (hk : k < l.length) (hc : (at_ l (k : Int)).toNat = 92) : k + 1 < l.length ∧ ∃ r', r = .lit 0 ((at_ l ((k : Int) + 1)).toNat : Int) r' ∧ Rep (l.drop (k + 2)) r' := by
 have e := at_eq (n := 92) rfl hc
 rw [drop_at l hk, e] at h
 generalize ht : l.drop (k + 1) = t at h
 generalize hx : (92 :: t : List UInt8) = x at h
 cases h with
 | nil => cases hx
 | one => injection hx with h1; exact absurd h1 (by decide)
 | all => injection hx with h1; exact absurd h1 (by decide)
 | few => injection hx with h1; exact absurd h1 (by decide)
 | grp => injection hx with h1; exact absurd h1 (by decide)
 | bar => injection hx with h1; exact absurd h1 (by decide)
 | @esc t' r' d h =>
  injection hx with _ h2; subst h2
  have hk1 : k + 1 < l.length := by
   apply Classical.byContradiction
   intro hn
   rw [List.drop_of_length_le (by omega)] at ht
   cases ht
  obtain ⟨a, b⟩ := drop_split hk1 ht
  subst b
  refine ⟨hk1, r', ?_, h⟩
  rw [a]; rfl
 | byte c _ _ _ _ _ h1 => injection hx with h2; exact absurd h2.symm h1
theorem inv_grp (h : Rep (l.drop k) r) (hk : k < l.length) (hc : (at_ l (k : Int)).toNat = 40) : ∃ t1 t2 b r', l.drop k = 40 :: (t1 ++ 41 :: t2) ∧ r = .grp b r' ∧ Rep t1 b ∧ Rep t2 r' ∧ l.drop (k + 1) = t1 ++ 41 :: t2 ∧ l.drop (k + 1 + t1.length + 1) = t2 ∧ k + 1 + t1.length < l.length := by
 have e := at_eq (n := 40) rfl hc
 have h0 := drop_at l hk
 rw [e] at h0
 rw [h0] at h ⊢
 generalize ht : l.drop (k + 1) = t at h
 generalize hx : (40 :: t : List UInt8) = x at h
 cases h with
 | nil => cases hx
 | one => injection hx with h1; exact absurd h1 (by decide)
 | all => injection hx with h1; exact absurd h1 (by decide)
 | few => injection hx with h1; exact absurd h1 (by decide)
 | @grp t1 t2 b r' h1 h2 =>
  injection hx with _ h3; subst h3
  have hl := congrArg List.length ht
  simp at hl
  refine ⟨t1, t2, b, r', rfl, rfl, h1, h2, rfl, ?_, by omega⟩
  rw [show k + 1 + t1.length + 1 = (k + 1) + (t1.length + 1) by omega, ← List.drop_drop, ht, ← List.drop_drop, List.drop_left]; rfl
 | bar => injection hx with h1; exact absurd h1 (by decide)
 | esc => injection hx with h1; exact absurd h1 (by decide)
 | byte c _ _ h1 => injection hx with h2; exact absurd h2.symm h1
theorem inv_byte (h : Rep (l.drop k) r) (hf : r.flat) (hk : k < l.length) (h1 : ¬ (at_ l (k : Int)).toNat = 63) (h2 : ¬ (at_ l (k : Int)).toNat = 42) (h3 : ¬ (at_ l (k : Int)).toNat = 92) (h4 : ¬ (at_ l (k : Int)).toNat = 40) : ∃ r', r = .lit 0 ((at_ l (k : Int)).toNat : Int) r' ∧ Rep (l.drop (k + 1)) r' := by
 rw [drop_at l hk] at h
 generalize l.drop (k + 1) = t at h
 generalize at_ l (k : Int) = c at h h1 h2 h3 h4
 generalize hx : (c :: t : List UInt8) = x at h
 cases h with
 | nil => cases hx
 | one => injection hx with e; subst e; exact absurd rfl h1
 | all => injection hx with e; subst e; exact absurd rfl h2
 | few => injection hx with e; subst e; exact absurd rfl h2
 | grp => injection hx with e; subst e; exact absurd rfl h4
 | bar => exact hf.elim
 | esc => injection hx with e; subst e; exact absurd rfl h3
 | byte c' _ _ _ _ _ _ h => injection hx with e e2; subst e; subst e2; exact ⟨_, rfl, h⟩
end
def AltInv (l t2 : List UInt8) (b : Pt) (all : List Int) (close : Int) (m at0 : Nat) (D : Lang) : Prop :=
 (m < all.length → ∃ tr br psr, all.drop m = psr ++ [close] ∧ Alts tr br (at0 : Int) psr ∧ l.drop at0 = tr ++ 41 :: t2 ∧ (at0 : Int) + tr.length = close ∧ ∀ u, ((sem b).1 u ∨ (sem b).2 u) ↔ (D u ∨ ((sem br).1 u ∨ (sem br).2 u))) ∧ (m = all.length → ∀ u, ((sem b).1 u ∨ (sem b).2 u) ↔ D u)
theorem alt_step {l t2 : List UInt8} {b : Pt} {all : List Int} {close : Int} {m at0 : Nat} {D : Lang} (h : AltInv l t2 b all close m at0 D) (hm : m < all.length) : ∃ (q : Nat) (b1 : Pt), all[m]? = some (q : Int) ∧ at0 ≤ q ∧ q < l.length ∧ (q : Int) ≤ close ∧ Rep ((l.drop at0).take (q - at0)) b1 ∧ b1.flat ∧ AltInv l t2 b all close (m + 1) (q + 1) (fun u => D u ∨ (sem b1).1 u) := by
 obtain ⟨tr, br, psr, h1, h2, h3, h4, h5⟩ := h.1 hm
 have hlen := congrArg List.length h3
 have hall := congrArg List.length h1
 simp at hlen hall
 have hget : all[m]? = (psr ++ [close])[0]? := by rw [← h1]; simp
 cases h2 with
 | last _ k1 k2 =>
  refine ⟨at0 + tr.length, br, by rw [hget]; simp; omega, by omega, by omega, by omega, ?_, k2, ?_, ?_⟩
  ·rw [h3, show at0 + tr.length - at0 = tr.length by omega, List.take_left]; exact k1
  ·intro hm2; simp at hall; omega
  ·intro _ u
   rw [h5 u]
   have := sem_flat2 br k2 u
   simp [this]
 | @more t1 b1 t2' b2 ps _ k1 k2 k3 =>
  simp at hlen
  refine ⟨at0 + t1.length, b1, by rw [hget]; simp, by omega, by omega, ?_, ?_, k2, ?_, ?_⟩
  ·simp at h4; omega
  ·rw [h3, show at0 + t1.length - at0 = t1.length by omega, List.append_assoc, List.take_left]; exact k1
  ·intro hm2
   refine ⟨t2', b2, ps, ?_, by simpa using k3, ?_, by simp at h4; omega, fun u => ?_⟩
   ·rw [← List.drop_drop, h1]; rfl
   ·rw [show at0 + t1.length + 1 = at0 + (t1.length + 1) by omega, ← List.drop_drop, h3, List.append_assoc, ← List.drop_drop, List.drop_left]; rfl
   ·rw [h5 u, sem_app _ _ k2, sem_app2 _ _ k2]
    have hc : cat (sem b1).1 (sem (.bar b2)).1 u ↔ (sem b1).1 u := cat_end _ u
    rw [hc]
    simp only [sem]
    constructor
    ·rintro (a | a | a)
     ·exact .inl (.inl a)
     ·exact .inl (.inr a)
     ·exact .inr a
    ·rintro ((a | a) | a)
     ·exact .inl a
     ·exact .inr (.inl a)
     ·exact .inr (.inr a)
  ·intro hm2; simp at hall; omega
end Pat
