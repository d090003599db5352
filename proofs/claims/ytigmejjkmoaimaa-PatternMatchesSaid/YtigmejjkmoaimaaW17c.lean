/- Chapter 17: compiling. -/
import Derived.Test.YtigmejjkmoaimaaW17b
namespace Go.Proofs.Ytigmejjkmoaimaa
open Gk Pat
set_option linter.unusedVariables false
set_option linter.unusedSimpArgs false
theorem set_last (xs : List Value) (x y : Value) (r : List Value) : ((xs ++ [x]) ++ r).set (0 + (xs.length : Int).toNat * 1) y = (xs ++ [y]) ++ r := by
  rw [Int.toNat_natCast, Nat.zero_add, Nat.mul_one, List.append_assoc, List.set_append_right _ _ (Nat.le_refl _)]
  simp
theorem hasPre2 {l : List UInt8} {k : Nat} (h : hasPre (l.drop (k : Int).toNat) [42, 42] = true) (hk : k < l.length) : k + 1 < l.length := by
  simp [hasPre] at h
  omega
theorem hasPre2c {l : List UInt8} {k : Nat} (h : hasPre (l.drop (k : Int).toNat) [42, 42] = true) (hk : k + 1 < l.length) : (at_ l ((k + 1 : Nat) : Int)).toNat = 42 := by
  rw [Int.toNat_natCast, drop_at l (k := k) (by omega), drop_at l (k := k + 1) hk] at h
  simp [hasPre] at h
  rw [show ((k + 1 : Nat) : Int) = (k : Int) + 1 from rfl, h.2.2]; rfl
theorem star1 {l : List UInt8} {k : Nat} {Q : List Pl} {stk : List PFr} {ats : List Int} {X : Except (Int × Int) (List Pl)} (h : hasPre (l.drop (k : Int).toNat) [42, 42] = false) (hk : k < l.length ∧ (at_ l (k : Int)).toNat = 42)
    (e : (match l.drop (k + 1) with
      | d :: r' => if d.toNat = 42 then cmpGo r' ((k : Int) + 2) (Q ++ [(2, 0, [])]) stk ats else cmpGo (d :: r') ((k : Int) + 1) (Q ++ [(3, 0, [])]) stk ats
      | [] => cmpGo [] ((k : Int) + 1) (Q ++ [(3, 0, [])]) stk ats) = X) : cmpGo (l.drop (k + 1)) ((k : Int) + 1) (Q ++ [(3, 0, [])]) stk ats = X := by
  cases hd : l.drop (k + 1) with
  | nil => rw [hd] at e; exact e
  | cons d r =>
    rw [hd] at e
    have hne : ¬ d.toNat = 42 := fun h42 => by
      rw [Int.toNat_natCast, drop_at l (k := k) hk.1, hd] at h
      have h1 : at_ l (k : Int) = 42 := UInt8.toNat_inj.1 hk.2
      have h2 : d = 42 := UInt8.toNat_inj.1 h42
      rw [h1, h2] at h
      simp [hasPre] at h
      omega
    simp only [hne, if_false] at e
    exact e
theorem bld42 : Bld Try.prog 42 [(0, 1), (1, 1), (2, 1)] [.slice none 0 0, .slice none 0 0, .slice none 0 0] := bld_of Try.underlying42 Try.zeroValue42 (fun w => by simp [go_sem])
theorem bld46 : Bld Try.prog 46 [(0, 1), (1, 1)] [.slice none 0 0, .int .i64 0] := bld_of Try.underlying46 Try.zeroValue46 (fun w => by simp [go_sem])
set_option maxHeartbeats 1600000 in
theorem Compile_any (l : List UInt8) (B w : World) (I : Im) (As : List Assn) (hS : Sat B w I As) (hl : l.length ≤ 140737488351232) :
    Calls Try.prog 11 [S l].toArray w (Ret fun v w' => (∃ e a J, cmp l = .error (e, a) ∧ v = .tuple #[.pointer none, I64 e, I64 a] ∧ Le I J ∧ Sat B w' J As) ∨
      (∃ Q p J, cmp l = .ok Q ∧ v = .tuple #[.pointer (some p), I64 0, I64 0] ∧ Le I J ∧ PatI J p Q l.length ∧ Sat B w' J As)) := by
  refine calls Try.func11 rfl Try.ntmps11 rfl ?_
  refine WC.seq ?_
  refine WC.region ?_
  refine WL.val (.assign (.of rfl)) rfl ?_
  refine WL.val (.assign (.of rfl)) rfl ?_
  refine WL.val (.assign (.of rfl)) rfl ?_
  refine WL.nil ?_
  refine WC.seq ?_
  refine WC.seq ?_
  refine WC.region ?_
  refine WL.val (.move (.of rfl)) rfl ?_
  refine WL.val (.len (.of rfl) Try.underlying9) rfl ?_
  refine WL.val (.gtr (.of rfl) (.of rfl)) rfl ?_
  refine WL.nil ?_
  refine WC.cond rfl (fun hb12 => ?_) (fun hb12 => ?_)
  ·
    have hc12 := hb12; try simp only [decide_eq_true_eq, decide_eq_false_iff_not, beq_iff_eq, beq_eq_false_iff_ne, bne_iff_ne, Bool.not_eq_true', Bool.not_eq_false', Bool.or_eq_true, Bool.and_eq_true, Bool.or_eq_false_iff, Bool.and_eq_false_iff, ne_eq, Int.not_lt, Int.not_le, bne_eq_false_iff_eq, Bool.not_eq_true, Bool.not_eq_false] at hc12
    refine WC.seq ?_
    refine WC.region ?_
    refine WL.val (.assign (.of rfl)) rfl ?_
    refine WL.val (.assign (.of rfl)) rfl ?_
    refine WL.val (.assign (.of rfl)) rfl ?_
    refine WL.nil ?_
    refine WC.ret ?_
    refine ret3 Try.results11 rfl rfl rfl ?_
    exact ⟨_, rfl, .inl ⟨_, _, I, by rw [cmp, if_pos (by omega)], rfl, Le.refl I, hS⟩⟩
  ·
    have hc12 := hb12; try simp only [decide_eq_true_eq, decide_eq_false_iff_not, beq_iff_eq, beq_eq_false_iff_ne, bne_iff_ne, Bool.not_eq_true', Bool.not_eq_false', Bool.or_eq_true, Bool.and_eq_true, Bool.or_eq_false_iff, Bool.and_eq_false_iff, ne_eq, Int.not_lt, Int.not_le, bne_eq_false_iff_eq, Bool.not_eq_true, Bool.not_eq_false] at hc12
    refine WC.skip ?_
    refine WC.seq ?_
    refine WC.region ?_
    refine WL.val (.build (cs := [_, _, _]) parts_nil bld42 rfl) rfl ?_
    refine WL.boxA (cs := [_, _, _]) hS (.of rfl) rfl ?_
    clear hS; intro b14 w hS
    have hS := ((((Sat_sepNil hS).vecNil 3 1).vecNil 40 1).vecNil 61 3).pick 4 rfl; try dsimp only [List.eraseIdx] at hS
    refine WL.val (.assign (.of rfl)) rfl ?_
    refine WL.nil ?_
    refine WC.seq ?_
    refine WC.seq ?_
    refine WC.region ?_
    refine WL.val (.assign (.of rfl)) rfl ?_
    refine WL.nil ?_
    refine WC.block ?_
    refine WC.loop (σ := Nat × List PFr × List (Value × List Int) × List Pl × List Cell3 × Value × Value × Value × List Int × Im) (fun ⟨k, stk, st, Q, P, lv, sv, av, ats, J⟩ => [(0, S l), (5, ptr b14 0), (6, I64 (k : Nat))]) (fun ⟨k, stk, st, Q, P, lv, sv, av, ats, J⟩ w => k ≤ l.length ∧ Q.length ≤ k ∧ st.map (·.2) = stk.reverse.map mks ∧ stk.length ≤ 4 ∧ ats.length = stk.length ∧ Frames Q Q.length stk ∧ RelP J P Q ∧ Le I J ∧ cmpGo (l.drop k) k Q stk ats = cmp l ∧ Sat B w J (blk b14 [lv, sv, av] 42 :: Vec 61 3 lv P.length (P.flatMap enc) :: Vec 40 1 sv st.length (st.map (·.1)) :: Vec 3 1 av ats.length (ats.map I64) :: rowsA 3 st :: As)) (fun ⟨k, stk, st, Q, P, lv, sv, av, ats, J⟩ => l.length - k) (0, [], [], [], [], .slice none 0 0, .slice none 0 0, .slice none 0 0, [], I) ⟨rfl, rfl, rfl, trivial⟩ ⟨Nat.zero_le _, Nat.le_refl _, rfl, by simp, rfl, trivial, RelP.nil _, Le.refl _, by rw [cmp, if_neg (by omega)]; rfl, hS⟩ ?_
    rintro ⟨k, stk, st, Q, P, lv, sv, av, ats, J⟩ w ⟨hk, hQk, hst, hlen4, hats, hF, hR, hJ, hq, hS⟩
    change WC _ _ _ _ [(0, S l), (5, ptr b14 0), (6, I64 (k : Nat))] w
    obtain ⟨la, lc, rfl, hlc, _⟩ := hS.vecSlice (k := 1) rfl
    obtain ⟨sa, sc, rfl, hsc, _⟩ := hS.vecSlice (k := 2) rfl
    obtain ⟨aa, ac, rfl, hac, _⟩ := hS.vecSlice (k := 3) rfl
    have hst2 : st.length = stk.length := by have := congrArg List.length hst; simpa using this
    have hPQ := hR.1
    refine WC.seq ?_
    refine WC.seq ?_
    refine WC.region ?_
    refine WL.val (.move (.of rfl)) rfl ?_
    refine WL.val (.move (.of rfl)) rfl ?_
    refine WL.val (.len (.of rfl) Try.underlying9) rfl ?_
    refine WL.val (.lss (.of rfl) (.of rfl)) rfl ?_
    refine WL.nil ?_
    refine WC.cond rfl (fun hb18 => ?_) (fun hb18 => ?_)
    ·
      have hc18 := hb18; try simp only [decide_eq_true_eq, decide_eq_false_iff_not, beq_iff_eq, beq_eq_false_iff_ne, bne_iff_ne, Bool.not_eq_true', Bool.not_eq_false', Bool.or_eq_true, Bool.and_eq_true, Bool.or_eq_false_iff, Bool.and_eq_false_iff, ne_eq, Int.not_lt, Int.not_le, bne_eq_false_iff_eq, Bool.not_eq_true, Bool.not_eq_false] at hc18
      refine WC.skip ?_
      refine WC.seq ?_
      refine WC.block ?_
      refine WC.seq ?_
      refine WC.region ?_
      refine WL.val (.move (.of rfl)) rfl ?_
      refine WL.val (.nilCheck (.of rfl)) rfl ?_
      first | refine WL.val (.fieldAddr 1 (.of rfl) Try.underlying42 rfl rfl Try.sizeOf39 rfl) rfl ?_ | refine WL.val (.fieldAddrI 1 (.of rfl) Try.underlying42 rfl rfl Try.sizeOf39 rfl) rfl ?_
      first | refine WL.val (.ld (.of rfl) hS (k := 0) rfl Try.isAgg39 rfl) rfl ?_ | refine WL.val (.ld (.of rfl) hS (k := 1) rfl Try.isAgg39 rfl) rfl ?_ | refine WL.val (.ld (.of rfl) hS (k := 2) rfl Try.isAgg39 rfl) rfl ?_ | refine WL.val (.ld (.of rfl) hS (k := 3) rfl Try.isAgg39 rfl) rfl ?_ | refine WL.val (.ld (.of rfl) hS (k := 4) rfl Try.isAgg39 rfl) rfl ?_
      refine WL.val (.lenSlice (.of rfl) Try.underlying39) rfl ?_
      refine WL.val (.assign (.of rfl)) rfl ?_
      refine WL.nil ?_
      refine WC.seq ?_
      refine WC.region ?_
      refine WL.val (.move (.of rfl)) rfl ?_
      refine WL.val (.move (.of rfl)) rfl ?_
      refine WL.val (.index (.of rfl) (.of rfl) (by omega) (by omega) Try.underlying9) rfl ?_
      refine WL.val (.assign (.of rfl)) rfl ?_
      refine WL.nil ?_
      refine WC.seq ?_
      refine WC.region ?_
      refine WL.val (.move (.of rfl)) rfl ?_
      refine WL.nil ?_
      refine WC.block ?_
      refine WC.seq ?_
      refine WC.region ?_
      refine WL.val (.eql (.of rfl) (.of rfl)) rfl ?_
      refine WL.val (.assign (.of rfl)) rfl ?_
      refine WL.nil ?_
      refine WC.cond rfl (fun hb33 => ?_) (fun hb33 => ?_)
      ·
        have hc33 := hb33; try simp only [decide_eq_true_eq, decide_eq_false_iff_not, beq_iff_eq, beq_eq_false_iff_ne, bne_iff_ne, Bool.not_eq_true', Bool.not_eq_false', Bool.or_eq_true, Bool.and_eq_true, Bool.or_eq_false_iff, Bool.and_eq_false_iff, ne_eq, Int.not_lt, Int.not_le, bne_eq_false_iff_eq, Bool.not_eq_true, Bool.not_eq_false] at hc33
        refine WC.region ?_
        refine WL.val (.move (.of rfl)) rfl ?_
        refine WL.call Try.func19 rfl (evs_cons (.of rfl) (evs_cons (.of rfl) (evs_cons (.of rfl) evs_nil))) rfl (put_any _ P.length _ _ _ _ _ _ _ _ _ _ hS (by omega)) ?_
        clear hS
        rintro _ w ⟨rfl, lv2, hS⟩
        refine WL.nil ?_
        refine WC.region ?_
        refine WL.val (.move (.of rfl)) rfl ?_
        refine WL.val (.add (.of rfl) (.of rfl) ⟨by omega, by omega⟩) rfl ?_
        refine WL.val (.assign (.of rfl)) rfl ?_
        refine WL.nil ?_
        have e9 := hq
        rw [drop_at l (by omega), cmpGo_cons, if_pos (by omega)] at e9
        refine ⟨(k + 1, stk, st, Q ++ [(1, 0, [])], P ++ [(1, 0, .slice none 0 0)], lv2, .slice sa st.length sc, .slice aa ats.length ac, ats, J), ⟨rfl, rfl, rfl, trivial⟩, ⟨by omega, by rw [List.length_append]; simp; omega, hst, hlen4, hats, hF.app _, hR.snoc _ _ _ _ (IntsI.nil _), hJ, e9, ?_⟩, by dsimp only; omega⟩
        rw [List.length_append, List.flatMap_append]; exact hS
      ·
        have hc33 := hb33; try simp only [decide_eq_true_eq, decide_eq_false_iff_not, beq_iff_eq, beq_eq_false_iff_ne, bne_iff_ne, Bool.not_eq_true', Bool.not_eq_false', Bool.or_eq_true, Bool.and_eq_true, Bool.or_eq_false_iff, Bool.and_eq_false_iff, ne_eq, Int.not_lt, Int.not_le, bne_eq_false_iff_eq, Bool.not_eq_true, Bool.not_eq_false] at hc33
        refine WC.seq ?_
        refine WC.region ?_
        refine WL.val (.eql (.of rfl) (.of rfl)) rfl ?_
        refine WL.val (.assign (.of rfl)) rfl ?_
        refine WL.nil ?_
        refine WC.cond rfl (fun hb37 => ?_) (fun hb37 => ?_)
        ·
          have hc37 := hb37; try simp only [decide_eq_true_eq, decide_eq_false_iff_not, beq_iff_eq, beq_eq_false_iff_ne, bne_iff_ne, Bool.not_eq_true', Bool.not_eq_false', Bool.or_eq_true, Bool.and_eq_true, Bool.or_eq_false_iff, Bool.and_eq_false_iff, ne_eq, Int.not_lt, Int.not_le, bne_eq_false_iff_eq, Bool.not_eq_true, Bool.not_eq_false] at hc37
          refine WC.seq ?_
          refine WC.region ?_
          refine WL.val (.move (.of rfl)) rfl ?_
          refine WL.val (.move (.of rfl)) rfl ?_
          refine WL.val (.subFrom (.of rfl) (.of rfl) (by omega) (by omega) Try.underlying9) rfl ?_
          refine WL.call Try.func20 rfl (evs_cons (.of rfl) (evs_cons (.of rfl) evs_nil)) rfl (HasPrefix_any _ _ _ (by simp; omega) (by simp)) ?_
          rintro _ _ ⟨rfl, rfl⟩
          refine WL.nil ?_
          refine WC.cond rfl (fun hb42 => ?_) (fun hb42 => ?_)
          ·
            have hc42 := hb42; try simp only [decide_eq_true_eq, decide_eq_false_iff_not, beq_iff_eq, beq_eq_false_iff_ne, bne_iff_ne, Bool.not_eq_true', Bool.not_eq_false', Bool.or_eq_true, Bool.and_eq_true, Bool.or_eq_false_iff, Bool.and_eq_false_iff, ne_eq, Int.not_lt, Int.not_le, bne_eq_false_iff_eq, Bool.not_eq_true, Bool.not_eq_false] at hc42
            refine WC.seq ?_
            refine WC.region ?_
            refine WL.val (.move (.of rfl)) rfl ?_
            refine WL.call Try.func19 rfl (evs_cons (.of rfl) (evs_cons (.of rfl) (evs_cons (.of rfl) evs_nil))) rfl (put_any _ P.length _ _ _ _ _ _ _ _ _ _ hS (by omega)) ?_
            clear hS
            rintro _ w ⟨rfl, lv2, hS⟩
            refine WL.nil ?_
            refine WC.region ?_
            refine WL.val (.move (.of rfl)) rfl ?_
            refine WL.val (.add (.of rfl) (.of rfl) ⟨by omega, by omega⟩) rfl ?_
            refine WL.val (.assign (.of rfl)) rfl ?_
            refine WL.nil ?_
            refine WC.region ?_
            refine WL.val (.move (.of rfl)) rfl ?_
            refine WL.val (.add (.of rfl) (.of rfl) ⟨by omega, by omega⟩) rfl ?_
            refine WL.val (.assign (.of rfl)) rfl ?_
            refine WL.nil ?_
            have e9 := hq
            have hk2 : k + 1 < l.length := hasPre2 hb42 (by omega)
            rw [drop_at l (by omega), cmpGo_cons, if_neg (by omega), if_pos (by omega), drop_at l hk2] at e9
            simp only [] at e9
            rw [if_pos (hasPre2c hb42 hk2)] at e9
            refine ⟨(k + 2, stk, st, Q ++ [(2, 0, [])], P ++ [(2, 0, .slice none 0 0)], lv2, .slice sa st.length sc, .slice aa ats.length ac, ats, J), ⟨rfl, rfl, rfl, trivial⟩, ⟨by omega, by rw [List.length_append]; simp; omega, hst, hlen4, hats, hF.app _, hR.snoc _ _ _ _ (IntsI.nil _), hJ, e9, ?_⟩, by dsimp only; omega⟩
            rw [List.length_append, List.flatMap_append]; exact hS
          ·
            have hc42 := hb42; try simp only [decide_eq_true_eq, decide_eq_false_iff_not, beq_iff_eq, beq_eq_false_iff_ne, bne_iff_ne, Bool.not_eq_true', Bool.not_eq_false', Bool.or_eq_true, Bool.and_eq_true, Bool.or_eq_false_iff, Bool.and_eq_false_iff, ne_eq, Int.not_lt, Int.not_le, bne_eq_false_iff_eq, Bool.not_eq_true, Bool.not_eq_false] at hc42
            refine WC.region ?_
            refine WL.val (.move (.of rfl)) rfl ?_
            refine WL.call Try.func19 rfl (evs_cons (.of rfl) (evs_cons (.of rfl) (evs_cons (.of rfl) evs_nil))) rfl (put_any _ P.length _ _ _ _ _ _ _ _ _ _ hS (by omega)) ?_
            clear hS
            rintro _ w ⟨rfl, lv2, hS⟩
            refine WL.nil ?_
            refine WC.region ?_
            refine WL.val (.move (.of rfl)) rfl ?_
            refine WL.val (.add (.of rfl) (.of rfl) ⟨by omega, by omega⟩) rfl ?_
            refine WL.val (.assign (.of rfl)) rfl ?_
            refine WL.nil ?_
            have e9 := hq
            rw [drop_at l (by omega), cmpGo_cons, if_neg (by omega), if_pos (by omega)] at e9
            have e9 := star1 hb42 (by omega) e9
            refine ⟨(k + 1, stk, st, Q ++ [(3, 0, [])], P ++ [(3, 0, .slice none 0 0)], lv2, .slice sa st.length sc, .slice aa ats.length ac, ats, J), ⟨rfl, rfl, rfl, trivial⟩, ⟨by omega, by rw [List.length_append]; simp; omega, hst, hlen4, hats, hF.app _, hR.snoc _ _ _ _ (IntsI.nil _), hJ, e9, ?_⟩, by dsimp only; omega⟩
            rw [List.length_append, List.flatMap_append]; exact hS
        ·
          have hc37 := hb37; try simp only [decide_eq_true_eq, decide_eq_false_iff_not, beq_iff_eq, beq_eq_false_iff_ne, bne_iff_ne, Bool.not_eq_true', Bool.not_eq_false', Bool.or_eq_true, Bool.and_eq_true, Bool.or_eq_false_iff, Bool.and_eq_false_iff, ne_eq, Int.not_lt, Int.not_le, bne_eq_false_iff_eq, Bool.not_eq_true, Bool.not_eq_false] at hc37
          refine WC.seq ?_
          refine WC.region ?_
          refine WL.val (.eql (.of rfl) (.of rfl)) rfl ?_
          refine WL.val (.assign (.of rfl)) rfl ?_
          refine WL.nil ?_
          refine WC.cond rfl (fun hb49 => ?_) (fun hb49 => ?_)
          ·
            have hc49 := hb49; try simp only [decide_eq_true_eq, decide_eq_false_iff_not, beq_iff_eq, beq_eq_false_iff_ne, bne_iff_ne, Bool.not_eq_true', Bool.not_eq_false', Bool.or_eq_true, Bool.and_eq_true, Bool.or_eq_false_iff, Bool.and_eq_false_iff, ne_eq, Int.not_lt, Int.not_le, bne_eq_false_iff_eq, Bool.not_eq_true, Bool.not_eq_false] at hc49
            refine WC.seq ?_
            refine WC.seq ?_
            refine WC.region ?_
            refine WL.val (.move (.of rfl)) rfl ?_
            refine WL.val (.eql (.of rfl) (.of rfl)) rfl ?_
            refine WL.nil ?_
            refine WC.cond rfl (fun hb52 => ?_) (fun hb52 => ?_)
            ·
              have hc52 := hb52; try simp only [decide_eq_true_eq, decide_eq_false_iff_not, beq_iff_eq, beq_eq_false_iff_ne, bne_iff_ne, Bool.not_eq_true', Bool.not_eq_false', Bool.or_eq_true, Bool.and_eq_true, Bool.or_eq_false_iff, Bool.and_eq_false_iff, ne_eq, Int.not_lt, Int.not_le, bne_eq_false_iff_eq, Bool.not_eq_true, Bool.not_eq_false] at hc52
              refine WC.seq ?_
              refine WC.region ?_
              refine WL.val (.move (.of rfl)) rfl ?_
              refine WL.val (.assign (.of rfl)) rfl ?_
              refine WL.val (.assign (.of rfl)) rfl ?_
              refine WL.val (.assign (.of rfl)) rfl ?_
              refine WL.nil ?_
              refine WC.ret ?_
              refine ret3 Try.results11 rfl rfl rfl ?_
              have e9 : cmp l = .error (24, (k : Int)) := by rw [← hq, drop_at l (by omega), cmpGo_cons, if_neg (by omega), if_neg (by omega), if_pos (by omega), if_pos (by omega)]
              exact ⟨_, rfl, .inl ⟨_, _, J, e9, rfl, hJ, ((((hS.drop (k := 0) rfl).drop (k := 0) rfl).drop (k := 0) rfl).drop (k := 0) rfl).drop (k := 0) rfl⟩⟩
            ·
              have hc52 := hb52; try simp only [decide_eq_true_eq, decide_eq_false_iff_not, beq_iff_eq, beq_eq_false_iff_ne, bne_iff_ne, Bool.not_eq_true', Bool.not_eq_false', Bool.or_eq_true, Bool.and_eq_true, Bool.or_eq_false_iff, Bool.and_eq_false_iff, ne_eq, Int.not_lt, Int.not_le, bne_eq_false_iff_eq, Bool.not_eq_true, Bool.not_eq_false] at hc52
              refine WC.skip ?_
              refine WC.region ?_
              refine WL.val (.move (.of rfl)) rfl ?_
              refine WL.val (.move (.of rfl)) rfl ?_
              refine WL.call Try.func21 rfl (evs_cons (.of rfl) (evs_cons (.of rfl) evs_nil)) rfl (bracket_any _ P.length _ _ _ _ st ats _ _ _ _ _ hS (by omega) (by omega) (by omega)) ?_
              clear hS
              rintro _ w ⟨rfl, lv2, sv2, av2, mv2, hS⟩
              refine WL.nil ?_
              refine WC.region ?_
              refine WL.val (.move (.of rfl)) rfl ?_
              refine WL.val (.add (.of rfl) (.of rfl) ⟨by omega, by omega⟩) rfl ?_
              refine WL.val (.assign (.of rfl)) rfl ?_
              refine WL.nil ?_
              have e9 := hq
              rw [drop_at l (by omega), cmpGo_cons, if_neg (by omega), if_neg (by omega), if_pos (by omega), if_neg (by omega)] at e9
              have hx := hR.1
              refine ⟨(k + 1, (Q.length, []) :: stk, st ++ [(mv2, [(P.length : Int)])], Q ++ [(4, 0, [])], P ++ [(4, 0, .slice none 0 0)], lv2, sv2, av2, ats ++ [(k : Int)], J), ⟨rfl, rfl, rfl, trivial⟩, ⟨by omega, by rw [List.length_append]; simp; omega, ?_, by simp; omega, by simp [hats], ⟨by simp, by simp, by simp, fun b hb => by simp at hb, hF.grow (by simp) (by simp) fun i hi hq2 => by rw [List.getElem?_append_left hi]; exact hq2⟩, hR.snoc _ _ _ _ (IntsI.nil _), hJ, e9, ?_⟩, by dsimp only; omega⟩
              · simp [hst, mks, hx]
              · simp only [List.length_append, List.flatMap_append, List.map_append, List.length_singleton, List.map_cons, List.map_nil]; exact hS
          ·
            have hc49 := hb49; try simp only [decide_eq_true_eq, decide_eq_false_iff_not, beq_iff_eq, beq_eq_false_iff_ne, bne_iff_ne, Bool.not_eq_true', Bool.not_eq_false', Bool.or_eq_true, Bool.and_eq_true, Bool.or_eq_false_iff, Bool.and_eq_false_iff, ne_eq, Int.not_lt, Int.not_le, bne_eq_false_iff_eq, Bool.not_eq_true, Bool.not_eq_false] at hc49
            refine WC.seq ?_
            refine WC.seq ?_
            refine WC.region ?_
            refine WL.val (.eql (.of rfl) (.of rfl)) rfl ?_
            refine WL.val (.assign (.of rfl)) rfl ?_
            refine WL.nil ?_
            refine WC.cond rfl (fun hb57 => ?_) (fun hb57 => ?_)
            ·
              have hc57 := hb57; try simp only [decide_eq_true_eq, decide_eq_false_iff_not, beq_iff_eq, beq_eq_false_iff_ne, bne_iff_ne, Bool.not_eq_true', Bool.not_eq_false', Bool.or_eq_true, Bool.and_eq_true, Bool.or_eq_false_iff, Bool.and_eq_false_iff, ne_eq, Int.not_lt, Int.not_le, bne_eq_false_iff_eq, Bool.not_eq_true, Bool.not_eq_false] at hc57
              refine WC.skip ?_
              refine WC.cond rfl (fun hb57 => ?_) (fun hb57 => by exfalso; simp only [decide_eq_true_eq, decide_eq_false_iff_not, beq_iff_eq, beq_eq_false_iff_ne, bne_iff_ne, Bool.not_eq_true', Bool.not_eq_false', Bool.or_eq_true, Bool.and_eq_true, Bool.or_eq_false_iff, Bool.and_eq_false_iff, ne_eq, Int.not_lt, Int.not_le, bne_eq_false_iff_eq, Bool.not_eq_true, Bool.not_eq_false] at hb57; omega)
              have hc57 := hb57; try simp only [decide_eq_true_eq, decide_eq_false_iff_not, beq_iff_eq, beq_eq_false_iff_ne, bne_iff_ne, Bool.not_eq_true', Bool.not_eq_false', Bool.or_eq_true, Bool.and_eq_true, Bool.or_eq_false_iff, Bool.and_eq_false_iff, ne_eq, Int.not_lt, Int.not_le, bne_eq_false_iff_eq, Bool.not_eq_true, Bool.not_eq_false] at hc57
              refine WC.seq ?_
              refine WC.seq ?_
              refine WC.region ?_
              refine WL.val (.move (.of rfl)) rfl ?_
              refine WL.val (.eql (.of rfl) (.of rfl)) rfl ?_
              refine WL.nil ?_
              refine WC.cond rfl (fun hb61 => ?_) (fun hb61 => ?_)
              ·
                have hc61 := hb61; try simp only [decide_eq_true_eq, decide_eq_false_iff_not, beq_iff_eq, beq_eq_false_iff_ne, bne_iff_ne, Bool.not_eq_true', Bool.not_eq_false', Bool.or_eq_true, Bool.and_eq_true, Bool.or_eq_false_iff, Bool.and_eq_false_iff, ne_eq, Int.not_lt, Int.not_le, bne_eq_false_iff_eq, Bool.not_eq_true, Bool.not_eq_false] at hc61
                refine WC.seq ?_
                refine WC.region ?_
                refine WL.val (.move (.of rfl)) rfl ?_
                refine WL.val (.assign (.of rfl)) rfl ?_
                refine WL.val (.assign (.of rfl)) rfl ?_
                refine WL.val (.assign (.of rfl)) rfl ?_
                refine WL.nil ?_
                refine WC.ret ?_
                refine ret3 Try.results11 rfl rfl rfl ?_
                obtain rfl : stk = [] := List.eq_nil_of_length_eq_zero (by omega)
                have e9 : cmp l = .error (10, (k : Int)) := by rw [← hq, drop_at l (by omega), cmpGo_cons, if_neg (by omega), if_neg (by omega), if_neg (by omega), if_pos (by omega)]
                exact ⟨_, rfl, .inl ⟨_, _, J, e9, rfl, hJ, ((((hS.drop (k := 0) rfl).drop (k := 0) rfl).drop (k := 0) rfl).drop (k := 0) rfl).drop (k := 0) rfl⟩⟩
              ·
                have hc61 := hb61; try simp only [decide_eq_true_eq, decide_eq_false_iff_not, beq_iff_eq, beq_eq_false_iff_ne, bne_iff_ne, Bool.not_eq_true', Bool.not_eq_false', Bool.or_eq_true, Bool.and_eq_true, Bool.or_eq_false_iff, Bool.and_eq_false_iff, ne_eq, Int.not_lt, Int.not_le, bne_eq_false_iff_eq, Bool.not_eq_true, Bool.not_eq_false] at hc61
                refine WC.skip ?_
                refine WC.seq ?_
                refine WC.seq ?_
                refine WC.region ?_
                refine WL.val (.move (.of rfl)) rfl ?_
                refine WL.val (.eql (.of rfl) (.of rfl)) rfl ?_
                refine WL.nil ?_
                refine WC.cond rfl (fun hb64 => by exfalso; simp only [decide_eq_true_eq, decide_eq_false_iff_not, beq_iff_eq, beq_eq_false_iff_ne, bne_iff_ne, Bool.not_eq_true', Bool.not_eq_false', Bool.or_eq_true, Bool.and_eq_true, Bool.or_eq_false_iff, Bool.and_eq_false_iff, ne_eq, Int.not_lt, Int.not_le, bne_eq_false_iff_eq, Bool.not_eq_true, Bool.not_eq_false] at hb64; omega) (fun hb64 => ?_)
                have hc64 := hb64; try simp only [decide_eq_true_eq, decide_eq_false_iff_not, beq_iff_eq, beq_eq_false_iff_ne, bne_iff_ne, Bool.not_eq_true', Bool.not_eq_false', Bool.or_eq_true, Bool.and_eq_true, Bool.or_eq_false_iff, Bool.and_eq_false_iff, ne_eq, Int.not_lt, Int.not_le, bne_eq_false_iff_eq, Bool.not_eq_true, Bool.not_eq_false] at hc64
                refine WC.skip ?_
                refine WC.seq ?_
                obtain ⟨o, bs, rest, rfl⟩ : ∃ o bs rest, stk = (o, bs) :: rest := by
                  cases stk with
                  | nil => exfalso; have : st.length = 0 := hst2; omega
                  | cons f r => exact ⟨f.1, f.2, r, rfl⟩
                obtain ⟨st0, mv, rfl, hst0⟩ := stk_snoc hst
                obtain ⟨hf1, hf2, hf3, hf4, hf5⟩ := id hF
                simp only [List.map_append, List.map_cons, List.map_nil, List.length_append, List.length_singleton] at hS
                have hl0 : st0.length + 1 = rest.length + 1 := by simpa using hst2
                have hats2 : ats.length = rest.length + 1 := by simpa using hats
                have hlen5 : rest.length + 1 ≤ 4 := by simpa using hlen4
                obtain ⟨gs, sc2, rs, hv8, hsc1, hsc2, hsc3, hsc4, hS⟩ := hS.vecOpen (k := 2) rfl (by omega)
                injection hv8 with hv8 _ hv9; subst hv8; subst hv9; try dsimp only [List.set] at hS
                have e4 : rowsA 3 (st0 ++ [(mv, mks (o, bs))]) = SepAll ((st0.map fun x => Vec 3 1 x.1 x.2.length (x.2.map I64)) ++ [Vec 3 1 mv (mks (o, bs)).length ((mks (o, bs)).map I64)]) := by rw [rowsA, List.map_append]; rfl
                rw [e4] at hS
                replace hS := hS.pop (k := 4) rfl; try dsimp only [List.set] at hS
                obtain ⟨ma, mc, rfl, hmc, _⟩ := hS.vecSlice (k := 0) rfl
                have hmk : (mks (o, bs)).length = bs.length + 1 := by simp [mks]
                have e28 : (((st0 ++ [(Value.slice ma (mks (o, bs)).length mc, mks (o, bs))]).length : Nat) : Int) - 1 = (st0.length : Int) := by simp
                refine WC.drawn (fun w => ∃ R, Sat B w J (blk gs ((st0.map (·.1) ++ [Value.slice ma (mks (o, bs)).length mc]) ++ rs) 40 :: blk b14 [.slice la P.length lc, .slice (some (ad gs 0)) (st0.length + 1) sc, .slice aa ats.length ac] 42 :: R)) (fun j => !([22].contains j)) (by kernel_rfl) ?_
                replace hS := hS.drew; generalize w.drew = w at hS ⊢
                have hH : ∃ R, Sat B w J (blk gs ((st0.map (·.1) ++ [Value.slice ma (mks (o, bs)).length mc]) ++ rs) 40 :: blk b14 [.slice la P.length lc, .slice (some (ad gs 0)) (st0.length + 1) sc, .slice aa ats.length ac] 42 :: R) := ⟨_, ((hS.pick 1 rfl).pick 3 rfl)⟩
                refine WD.takeP (i := 0) rfl (by kernel_rfl) (by kernel_rfl) (by kernel_rfl) (fun w => (.move (.of rfl))) rfl ?_
                refine WD.takeP (i := 1) rfl (by kernel_rfl) (by kernel_rfl) (by kernel_rfl) (fun w => (.nilCheck (.of rfl))) rfl ?_
                refine WD.takeP (i := 2) rfl (by kernel_rfl) (by kernel_rfl) (by kernel_rfl) (fun w => (by first | exact .fieldAddr 1 (.of rfl) Try.underlying42 rfl rfl Try.sizeOf39 rfl | exact .fieldAddrI 1 (.of rfl) Try.underlying42 rfl rfl Try.sizeOf39 rfl)) rfl ?_
                refine WD.take (i := 3) rfl (by kernel_rfl) (by kernel_rfl) (by kernel_rfl) (by kernel_rfl) hH (fun w ⟨R, hS⟩ => (by first | exact (.ld (.of rfl) hS (k := 0) rfl Try.isAgg39 rfl) | exact (.ld (.of rfl) hS (k := 1) rfl Try.isAgg39 rfl))) rfl ?_
                refine WD.takeP (i := 4) rfl (by kernel_rfl) (by kernel_rfl) (by kernel_rfl) (fun w => (.move (.of rfl))) rfl ?_
                refine WD.takeP (i := 5) rfl (by kernel_rfl) (by kernel_rfl) (by kernel_rfl) (fun w => (.sub (.of rfl) (.of rfl) ⟨by omega, by omega⟩)) rfl ?_
                refine WD.takeP (i := 6) rfl (by kernel_rfl) (by kernel_rfl) (by kernel_rfl) (fun w => (.move (.of rfl))) rfl ?_
                refine WD.takeP (i := 7) rfl (by kernel_rfl) (by kernel_rfl) (by kernel_rfl) (fun w => (.nilCheck (.of rfl))) rfl ?_
                refine WD.takeP (i := 8) rfl (by kernel_rfl) (by kernel_rfl) (by kernel_rfl) (fun w => (by first | exact .fieldAddr 1 (.of rfl) Try.underlying42 rfl rfl Try.sizeOf39 rfl | exact .fieldAddrI 1 (.of rfl) Try.underlying42 rfl rfl Try.sizeOf39 rfl)) rfl ?_
                refine WD.take (i := 9) rfl (by kernel_rfl) (by kernel_rfl) (by kernel_rfl) (by kernel_rfl) hH (fun w ⟨R, hS⟩ => (by first | exact (.ld (.of rfl) hS (k := 0) rfl Try.isAgg39 rfl) | exact (.ld (.of rfl) hS (k := 1) rfl Try.isAgg39 rfl))) rfl ?_
                refine WD.takeP (i := 10) rfl (by kernel_rfl) (by kernel_rfl) (by kernel_rfl) (fun w => (.move (.of rfl))) rfl ?_
                refine WD.takeP (i := 11) rfl (by kernel_rfl) (by kernel_rfl) (by kernel_rfl) (fun w => (.sub (.of rfl) (.of rfl) ⟨by omega, by omega⟩)) rfl ?_
                refine WD.takeP (i := 12) rfl (by kernel_rfl) (by kernel_rfl) (by kernel_rfl) (fun w => (by first | exact .indexAddr (.of rfl) (.of rfl) (by omega) (by omega) Try.underlying39 Try.sizeOf40 | exact .indexAddrI (.of rfl) (.of rfl) (by omega) (by omega) Try.underlying39 Try.sizeOf40)) rfl ?_
                refine WD.take (i := 13) rfl (by kernel_rfl) (by kernel_rfl) (by kernel_rfl) (by kernel_rfl) hH (fun w ⟨R, hS⟩ => .ld (.of rfl) hS (k := 0) rfl Try.isAgg40 (v := Value.slice ma (mks (o, bs)).length mc) (by rw [e28]; simp)) rfl ?_
                refine WD.takeP (i := 14) rfl (by kernel_rfl) (by kernel_rfl) (by kernel_rfl) (fun w => (.move (.of rfl))) rfl ?_
                refine WD.takeP (i := 15) rfl (by kernel_rfl) (by kernel_rfl) (by kernel_rfl) (fun w => (.nilCheck (.of rfl))) rfl ?_
                refine WD.takeP (i := 16) rfl (by kernel_rfl) (by kernel_rfl) (by kernel_rfl) (fun w => (by first | exact .fieldAddr 0 (.of rfl) Try.underlying42 rfl rfl Try.sizeOf38 rfl | exact .fieldAddrI 0 (.of rfl) Try.underlying42 rfl rfl Try.sizeOf38 rfl)) rfl ?_
                refine WD.take (i := 17) rfl (by kernel_rfl) (by kernel_rfl) (by kernel_rfl) (by kernel_rfl) hH (fun w ⟨R, hS⟩ => (by first | exact (.ld (.of rfl) hS (k := 0) rfl Try.isAgg38 rfl) | exact (.ld (.of rfl) hS (k := 1) rfl Try.isAgg38 rfl))) rfl ?_
                refine WD.takeP (i := 18) rfl (by kernel_rfl) (by kernel_rfl) (by kernel_rfl) (fun w => (.lenSlice (.of rfl) Try.underlying38)) rfl ?_
                refine WD.branch [19] (by kernel_rfl) rfl (WO.cons rfl ?_ (WO.nil))
                refine WL.buildSlice (cs := [_]) hS (parts_cons (.of rfl) parts_nil) Try.underlying40 Try.sizeOf3 Try.zeroValue3 rfl rfl rfl rfl ?_
                clear hS; intro b86 w hS
                refine WL.nil ?_
                clear hH
                have hH : ∃ R, Sat B w J (blk gs ((st0.map (·.1) ++ [Value.slice ma (mks (o, bs)).length mc]) ++ rs) 40 :: blk b14 [.slice la P.length lc, .slice (some (ad gs 0)) (st0.length + 1) sc, .slice aa ats.length ac] 42 :: R) := ⟨_, ((hS.pick 2 rfl).pick 4 rfl)⟩
                refine And.intro (by intro _ _; exact hH) ?_
                refine WD.branch [20] (by kernel_rfl) rfl (WO.cons rfl ?_ (WO.nil))
                first | refine WL.append (size := 1) (bytes := 8) hS (.of rfl) (.of rfl) (k := 0) rfl Try.underlying40 Try.type3 rfl rfl rfl rfl rfl rfl rfl ⟨by omega, by unfold maxLen; omega⟩ rfl ?_ | refine WL.append (size := 1) (bytes := 8) hS (.of rfl) (.of rfl) (k := 1) rfl Try.underlying40 Try.type3 rfl rfl rfl rfl rfl rfl rfl ⟨by omega, by unfold maxLen; omega⟩ rfl ?_ | refine WL.append (size := 1) (bytes := 8) hS (.of rfl) (.of rfl) (k := 2) rfl Try.underlying40 Try.type3 rfl rfl rfl rfl rfl rfl rfl ⟨by omega, by unfold maxLen; omega⟩ rfl ?_ | refine WL.append (size := 1) (bytes := 8) hS (.of rfl) (.of rfl) (k := 3) rfl Try.underlying40 Try.type3 rfl rfl rfl rfl rfl rfl rfl ⟨by omega, by unfold maxLen; omega⟩ rfl ?_ | refine WL.append (size := 1) (bytes := 8) hS (.of rfl) (.of rfl) (k := 4) rfl Try.underlying40 Try.type3 rfl rfl rfl rfl rfl rfl rfl ⟨by omega, by unfold maxLen; omega⟩ rfl ?_ | refine WL.append (size := 1) (bytes := 8) hS (.of rfl) (.of rfl) (k := 5) rfl Try.underlying40 Try.type3 rfl rfl rfl rfl rfl rfl rfl ⟨by omega, by unfold maxLen; omega⟩ rfl ?_
                clear hS; intro v87 w hS; try dsimp only [List.set] at hS
                first | obtain ⟨a87, c87, rfl, hcap87, _⟩ := hS.vecSlice (k := 0) (v := v87) rfl | obtain ⟨a87, c87, rfl, hcap87, _⟩ := hS.vecSlice (k := 1) (v := v87) rfl | obtain ⟨a87, c87, rfl, hcap87, _⟩ := hS.vecSlice (k := 2) (v := v87) rfl | obtain ⟨a87, c87, rfl, hcap87, _⟩ := hS.vecSlice (k := 3) (v := v87) rfl | obtain ⟨a87, c87, rfl, hcap87, _⟩ := hS.vecSlice (k := 4) (v := v87) rfl | obtain ⟨a87, c87, rfl, hcap87, _⟩ := hS.vecSlice (k := 5) (v := v87) rfl
                have hm28 : mks (o, bs ++ [Q.length]) = mks (o, bs) ++ [(P.length : Int)] := by simp [mks, hR.1]
                refine WL.nil ?_
                clear hH
                have hH : ∃ R, Sat B w J (blk gs ((st0.map (·.1) ++ [Value.slice ma (mks (o, bs)).length mc]) ++ rs) 40 :: blk b14 [.slice la P.length lc, .slice (some (ad gs 0)) (st0.length + 1) sc, .slice aa ats.length ac] 42 :: R) := ⟨_, ((hS.pick 1 rfl).pick 3 rfl)⟩
                refine And.intro (by intro _ _; exact hH) ?_
                refine WD.takeP (i := 21) rfl (by kernel_rfl) (by kernel_rfl) (by kernel_rfl) (fun w => (by first | exact .indexAddr (.of rfl) (.of rfl) (by omega) (by omega) Try.underlying39 Try.sizeOf40 | exact .indexAddrI (.of rfl) (.of rfl) (by omega) (by omega) Try.underlying39 Try.sizeOf40)) rfl ?_
                refine WD.branch [22] (by kernel_rfl) rfl (WO.cons rfl ?_ (WO.nil))
                refine WL.st1 hS (k := 3) rfl (.of rfl) (.of rfl) rfl Try.sizeOf40 (by rw [e28]; simp) ?_
                clear hS; intro w hS; try dsimp only [List.set] at hS
                rw [e28, show (st0.length : Int) = ((st0.map (·.1)).length : Int) by simp, set_last] at hS
                replace hS := hS.vecShut (k := 3) (n := st0.length + 1) (cap := sc) (size := 1) rfl hsc1 hsc2 (by simp) (by simpa using hsc4); try dsimp only [List.set] at hS
                replace hS := hS.push (k := 4) rfl; try dsimp only [List.set] at hS
                replace hS := hS.say (k := 4) (A' := rowsA 3 (st0 ++ [(.slice a87 ((mks (o, bs)).length + 1) c87, mks (o, bs ++ [Q.length]))])) rfl (fun h hh => by rw [hm28, rowsA, List.map_append]; simp only [List.map_cons, List.map_nil, List.length_append, List.length_singleton, List.map_append]; exact hh); try dsimp only [List.set] at hS
                refine WL.nil ?_
                refine And.intro (by intro h; cases h) ?_
                refine WD.done (by kernel_rfl) ?_
                refine WC.region ?_
                refine WL.val (.move (.of rfl)) rfl ?_
                refine WL.call Try.func19 rfl (evs_cons (.of rfl) (evs_cons (.of rfl) (evs_cons (.of rfl) evs_nil))) rfl (put_any _ P.length _ _ _ _ _ _ _ _ _ _ hS (by omega)) ?_
                clear hS
                rintro _ w ⟨rfl, lv2, hS⟩
                refine WL.nil ?_
                refine WC.region ?_
                refine WL.val (.move (.of rfl)) rfl ?_
                refine WL.val (.add (.of rfl) (.of rfl) ⟨by omega, by omega⟩) rfl ?_
                refine WL.val (.assign (.of rfl)) rfl ?_
                refine WL.nil ?_
                have e9 := hq
                rw [drop_at l (by omega), cmpGo_cons, if_neg (by omega), if_neg (by omega), if_neg (by omega), if_pos (by omega)] at e9
                simp only [] at e9
                have hx := hR.1
                refine ⟨(k + 1, (o, bs ++ [Q.length]) :: rest, st0 ++ [(.slice a87 ((mks (o, bs)).length + 1) c87, mks (o, bs ++ [Q.length]))], Q ++ [(5, 0, [])], P ++ [(5, 0, .slice none 0 0)], lv2, .slice (some (ad gs 0)) (st0.length + 1) sc, .slice aa ats.length ac, ats, J), ⟨rfl, rfl, rfl, trivial⟩, ⟨by omega, by rw [List.length_append]; simp; omega, ?_, by simpa using hlen4, by simpa using hats, ⟨?_, ?_, ?_, ?_, ?_⟩, hR.snoc _ _ _ _ (IntsI.nil _), hJ, e9, ?_⟩, by dsimp only; omega⟩
                · simp [hst0]
                · simp; omega
                · rw [List.getElem?_append_left hf1]; exact hf2
                · simp; omega
                · intro b hb
                  rcases List.mem_append.1 hb with hb | hb
                  · have := hf4 b hb; simp; omega
                  · simp at hb; subst hb; simp; omega
                · exact hf5.grow (Nat.le_refl _) (by simp) fun i hi hq2 => by rw [List.getElem?_append_left (by omega)]; exact hq2
                · simp only [List.length_append, List.flatMap_append, List.map_append, List.length_singleton, List.map_cons, List.map_nil]; exact hS
            ·
              have hc57 := hb57; try simp only [decide_eq_true_eq, decide_eq_false_iff_not, beq_iff_eq, beq_eq_false_iff_ne, bne_iff_ne, Bool.not_eq_true', Bool.not_eq_false', Bool.or_eq_true, Bool.and_eq_true, Bool.or_eq_false_iff, Bool.and_eq_false_iff, ne_eq, Int.not_lt, Int.not_le, bne_eq_false_iff_eq, Bool.not_eq_true, Bool.not_eq_false] at hc57
              refine WC.region ?_
              refine WL.val (.eql (.of rfl) (.of rfl)) rfl ?_
              refine WL.val (.assign (.of rfl)) rfl ?_
              refine WL.nil ?_
              refine WC.cond rfl (fun hb57 => ?_) (fun hb57 => ?_)
              ·
                have hc57 := hb57; try simp only [decide_eq_true_eq, decide_eq_false_iff_not, beq_iff_eq, beq_eq_false_iff_ne, bne_iff_ne, Bool.not_eq_true', Bool.not_eq_false', Bool.or_eq_true, Bool.and_eq_true, Bool.or_eq_false_iff, Bool.and_eq_false_iff, ne_eq, Int.not_lt, Int.not_le, bne_eq_false_iff_eq, Bool.not_eq_true, Bool.not_eq_false] at hc57
                refine WC.seq ?_
                refine WC.seq ?_
                refine WC.region ?_
                refine WL.val (.move (.of rfl)) rfl ?_
                refine WL.val (.eql (.of rfl) (.of rfl)) rfl ?_
                refine WL.nil ?_
                refine WC.cond rfl (fun hb61 => ?_) (fun hb61 => ?_)
                ·
                  have hc61 := hb61; try simp only [decide_eq_true_eq, decide_eq_false_iff_not, beq_iff_eq, beq_eq_false_iff_ne, bne_iff_ne, Bool.not_eq_true', Bool.not_eq_false', Bool.or_eq_true, Bool.and_eq_true, Bool.or_eq_false_iff, Bool.and_eq_false_iff, ne_eq, Int.not_lt, Int.not_le, bne_eq_false_iff_eq, Bool.not_eq_true, Bool.not_eq_false] at hc61
                  refine WC.seq ?_
                  refine WC.region ?_
                  refine WL.val (.move (.of rfl)) rfl ?_
                  refine WL.val (.assign (.of rfl)) rfl ?_
                  refine WL.val (.assign (.of rfl)) rfl ?_
                  refine WL.val (.assign (.of rfl)) rfl ?_
                  refine WL.nil ?_
                  refine WC.ret ?_
                  refine ret3 Try.results11 rfl rfl rfl ?_
                  obtain rfl : stk = [] := List.eq_nil_of_length_eq_zero (by omega)
                  have e9 : cmp l = .error (10, (k : Int)) := by rw [← hq, drop_at l (by omega), cmpGo_cons, if_neg (by omega), if_neg (by omega), if_neg (by omega), if_neg (by omega), if_pos (by omega)]
                  exact ⟨_, rfl, .inl ⟨_, _, J, e9, rfl, hJ, ((((hS.drop (k := 0) rfl).drop (k := 0) rfl).drop (k := 0) rfl).drop (k := 0) rfl).drop (k := 0) rfl⟩⟩
                ·
                  have hc61 := hb61; try simp only [decide_eq_true_eq, decide_eq_false_iff_not, beq_iff_eq, beq_eq_false_iff_ne, bne_iff_ne, Bool.not_eq_true', Bool.not_eq_false', Bool.or_eq_true, Bool.and_eq_true, Bool.or_eq_false_iff, Bool.and_eq_false_iff, ne_eq, Int.not_lt, Int.not_le, bne_eq_false_iff_eq, Bool.not_eq_true, Bool.not_eq_false] at hc61
                  refine WC.skip ?_
                  refine WC.seq ?_
                  refine WC.seq ?_
                  refine WC.region ?_
                  refine WL.val (.move (.of rfl)) rfl ?_
                  refine WL.val (.eql (.of rfl) (.of rfl)) rfl ?_
                  refine WL.nil ?_
                  refine WC.cond rfl (fun hb64 => ?_) (fun hb64 => by exfalso; simp only [decide_eq_true_eq, decide_eq_false_iff_not, beq_iff_eq, beq_eq_false_iff_ne, bne_iff_ne, Bool.not_eq_true', Bool.not_eq_false', Bool.or_eq_true, Bool.and_eq_true, Bool.or_eq_false_iff, Bool.and_eq_false_iff, ne_eq, Int.not_lt, Int.not_le, bne_eq_false_iff_eq, Bool.not_eq_true, Bool.not_eq_false] at hb64; omega)
                  have hc64 := hb64; try simp only [decide_eq_true_eq, decide_eq_false_iff_not, beq_iff_eq, beq_eq_false_iff_ne, bne_iff_ne, Bool.not_eq_true', Bool.not_eq_false', Bool.or_eq_true, Bool.and_eq_true, Bool.or_eq_false_iff, Bool.and_eq_false_iff, ne_eq, Int.not_lt, Int.not_le, bne_eq_false_iff_eq, Bool.not_eq_true, Bool.not_eq_false] at hc64
                  refine WC.seq ?_
                  refine WC.region ?_
                  refine WL.val (.move (.of rfl)) rfl ?_
                  obtain ⟨o, bs, rest, rfl⟩ : ∃ o bs rest, stk = (o, bs) :: rest := by
                    cases stk with
                    | nil => exfalso; have : st.length = 0 := hst2; omega
                    | cons f r => exact ⟨f.1, f.2, r, rfl⟩
                  obtain ⟨st0, mv, rfl, hst0⟩ := stk_snoc hst
                  obtain ⟨hf1, hf2, hf3, hf4, hf5⟩ := id hF
                  simp only [List.map_append, List.map_cons, List.map_nil, List.length_append, List.length_singleton] at hS
                  have hl0 : st0.length + 1 = rest.length + 1 := by simpa using hst2
                  have hats2 : ats.length = rest.length + 1 := by simpa using hats
                  have hlen5 : rest.length + 1 ≤ 4 := by simpa using hlen4
                  refine WL.call Try.func22 rfl (evs_cons (.of rfl) evs_nil) rfl (close_any _ _ _ _ mv P Q st0 o bs ats _ _ _ _ hS hR (fun b hb => by have := hf4 b hb; have hx := hR.1; omega) (by have hx := hR.1; omega) 4 0 (hR.nil_of hf2) hf2 (by have hx := hR.1; omega) (by omega) (by omega) (by omega)) ?_
                  clear hS
                  rintro _ w ⟨rfl, lv2, sv2, av2, P2, J2, hJ2, hR2, hS⟩
                  refine WL.nil ?_
                  refine WC.exit ?_
                  refine WC.region ?_
                  refine WL.val (.move (.of rfl)) rfl ?_
                  refine WL.val (.add (.of rfl) (.of rfl) ⟨by omega, by omega⟩) rfl ?_
                  refine WL.val (.assign (.of rfl)) rfl ?_
                  refine WL.nil ?_
                  have e9 := hq
                  rw [drop_at l (by omega), cmpGo_cons, if_neg (by omega), if_neg (by omega), if_neg (by omega), if_neg (by omega), if_pos (by omega)] at e9
                  simp only [] at e9
                  have hx := hR.1
                  refine ⟨(k + 1, rest, st0, closeGo Q.length o Q [] bs ++ [(6, 0, [])], P2, lv2, sv2, av2, ats.take rest.length, J2), ⟨rfl, rfl, rfl, trivial⟩, ⟨by omega, by rw [List.length_append, closeGo_len]; simp; omega, hst0, by simp at hlen4; omega, by simp at hats; simp; omega, hF.close _, by rw [hx] at hR2; exact hR2, hJ.trans hJ2, e9, ?_⟩, by dsimp only; omega⟩
                  have e5 : (ats.take rest.length).length = st0.length := by simp at hats; rw [List.length_take]; omega
                  have e6 : rest.length = st0.length := by omega
                  rw [e5, e6]; exact hS
              ·
                have hc57 := hb57; try simp only [decide_eq_true_eq, decide_eq_false_iff_not, beq_iff_eq, beq_eq_false_iff_ne, bne_iff_ne, Bool.not_eq_true', Bool.not_eq_false', Bool.or_eq_true, Bool.and_eq_true, Bool.or_eq_false_iff, Bool.and_eq_false_iff, ne_eq, Int.not_lt, Int.not_le, bne_eq_false_iff_eq, Bool.not_eq_true, Bool.not_eq_false] at hc57
                refine WC.seq ?_
                refine WC.region ?_
                refine WL.val (.eql (.of rfl) (.of rfl)) rfl ?_
                refine WL.val (.assign (.of rfl)) rfl ?_
                refine WL.nil ?_
                refine WC.cond rfl (fun hb91 => ?_) (fun hb91 => ?_)
                ·
                  have hc91 := hb91; try simp only [decide_eq_true_eq, decide_eq_false_iff_not, beq_iff_eq, beq_eq_false_iff_ne, bne_iff_ne, Bool.not_eq_true', Bool.not_eq_false', Bool.or_eq_true, Bool.and_eq_true, Bool.or_eq_false_iff, Bool.and_eq_false_iff, ne_eq, Int.not_lt, Int.not_le, bne_eq_false_iff_eq, Bool.not_eq_true, Bool.not_eq_false] at hc91
                  refine WC.seq ?_
                  refine WC.seq ?_
                  refine WC.region ?_
                  refine WL.val (.move (.of rfl)) rfl ?_
                  refine WL.val (.add (.of rfl) (.of rfl) ⟨by omega, by omega⟩) rfl ?_
                  refine WL.val (.move (.of rfl)) rfl ?_
                  refine WL.val (.len (.of rfl) Try.underlying9) rfl ?_
                  refine WL.val (.eql (.of rfl) (.of rfl)) rfl ?_
                  refine WL.nil ?_
                  refine WC.cond rfl (fun hb97 => ?_) (fun hb97 => ?_)
                  ·
                    have hc97 := hb97; try simp only [decide_eq_true_eq, decide_eq_false_iff_not, beq_iff_eq, beq_eq_false_iff_ne, bne_iff_ne, Bool.not_eq_true', Bool.not_eq_false', Bool.or_eq_true, Bool.and_eq_true, Bool.or_eq_false_iff, Bool.and_eq_false_iff, ne_eq, Int.not_lt, Int.not_le, bne_eq_false_iff_eq, Bool.not_eq_true, Bool.not_eq_false] at hc97
                    refine WC.seq ?_
                    refine WC.region ?_
                    refine WL.val (.move (.of rfl)) rfl ?_
                    refine WL.val (.assign (.of rfl)) rfl ?_
                    refine WL.val (.assign (.of rfl)) rfl ?_
                    refine WL.val (.assign (.of rfl)) rfl ?_
                    refine WL.nil ?_
                    refine WC.ret ?_
                    refine ret3 Try.results11 rfl rfl rfl ?_
                    have e9 : cmp l = .error (10, (k : Int)) := by rw [← hq, drop_at l (by omega), cmpGo_cons, if_neg (by omega), if_neg (by omega), if_neg (by omega), if_neg (by omega), if_neg (by omega), if_pos (by omega), List.drop_of_length_le (by omega)]
                    exact ⟨_, rfl, .inl ⟨_, _, J, e9, rfl, hJ, ((((hS.drop (k := 0) rfl).drop (k := 0) rfl).drop (k := 0) rfl).drop (k := 0) rfl).drop (k := 0) rfl⟩⟩
                  ·
                    have hc97 := hb97; try simp only [decide_eq_true_eq, decide_eq_false_iff_not, beq_iff_eq, beq_eq_false_iff_ne, bne_iff_ne, Bool.not_eq_true', Bool.not_eq_false', Bool.or_eq_true, Bool.and_eq_true, Bool.or_eq_false_iff, Bool.and_eq_false_iff, ne_eq, Int.not_lt, Int.not_le, bne_eq_false_iff_eq, Bool.not_eq_true, Bool.not_eq_false] at hc97
                    refine WC.skip ?_
                    refine WC.seq ?_
                    refine WC.region ?_
                    refine WL.val (.move (.of rfl)) rfl ?_
                    refine WL.val (.add (.of rfl) (.of rfl) ⟨by omega, by omega⟩) rfl ?_
                    refine WL.val (.assign (.of rfl)) rfl ?_
                    refine WL.nil ?_
                    refine WC.region ?_
                    refine WL.val (.move (.of rfl)) rfl ?_
                    refine WL.val (.move (.of rfl)) rfl ?_
                    refine WL.val (.move (.of rfl)) rfl ?_
                    refine WL.val (.index (.of rfl) (.of rfl) (by omega) (by omega) Try.underlying9) rfl ?_
                    refine WL.call Try.func19 rfl (evs_cons (.of rfl) (evs_cons (.of rfl) (evs_cons (.of rfl) evs_nil))) rfl (put_any _ P.length _ _ _ _ _ _ _ _ _ _ hS (by omega)) ?_
                    clear hS
                    rintro _ w ⟨rfl, lv2, hS⟩
                    refine WL.nil ?_
                    refine WC.region ?_
                    refine WL.val (.move (.of rfl)) rfl ?_
                    refine WL.val (.add (.of rfl) (.of rfl) ⟨by omega, by omega⟩) rfl ?_
                    refine WL.val (.assign (.of rfl)) rfl ?_
                    refine WL.nil ?_
                    have e9 := hq
                    rw [drop_at l (by omega), cmpGo_cons, if_neg (by omega), if_neg (by omega), if_neg (by omega), if_neg (by omega), if_neg (by omega), if_pos (by omega), drop_at l (k := k + 1) (by omega)] at e9
                    simp only [] at e9
                    refine ⟨(k + 2, stk, st, Q ++ [(0, ((at_ l ((k : Int) + 1)).toNat : Int), [])], P ++ [(0, ((at_ l ((k : Int) + 1)).toNat : Int), .slice none 0 0)], lv2, .slice sa st.length sc, .slice aa ats.length ac, ats, J), ⟨rfl, rfl, rfl, trivial⟩, ⟨by omega, by rw [List.length_append]; simp; omega, hst, hlen4, hats, hF.app _, hR.snoc _ _ _ _ (IntsI.nil _), hJ, e9, ?_⟩, by dsimp only; omega⟩
                    rw [List.length_append, List.flatMap_append]; exact hS
                ·
                  have hc91 := hb91; try simp only [decide_eq_true_eq, decide_eq_false_iff_not, beq_iff_eq, beq_eq_false_iff_ne, bne_iff_ne, Bool.not_eq_true', Bool.not_eq_false', Bool.or_eq_true, Bool.and_eq_true, Bool.or_eq_false_iff, Bool.and_eq_false_iff, ne_eq, Int.not_lt, Int.not_le, bne_eq_false_iff_eq, Bool.not_eq_true, Bool.not_eq_false] at hc91
                  refine WC.region ?_
                  refine WL.val (.move (.of rfl)) rfl ?_
                  refine WL.val (.move (.of rfl)) rfl ?_
                  refine WL.call Try.func19 rfl (evs_cons (.of rfl) (evs_cons (.of rfl) (evs_cons (.of rfl) evs_nil))) rfl (put_any _ P.length _ _ _ _ _ _ _ _ _ _ hS (by omega)) ?_
                  clear hS
                  rintro _ w ⟨rfl, lv2, hS⟩
                  refine WL.nil ?_
                  refine WC.region ?_
                  refine WL.val (.move (.of rfl)) rfl ?_
                  refine WL.val (.add (.of rfl) (.of rfl) ⟨by omega, by omega⟩) rfl ?_
                  refine WL.val (.assign (.of rfl)) rfl ?_
                  refine WL.nil ?_
                  have e9 := hq
                  rw [drop_at l (by omega), cmpGo_cons, if_neg (by omega), if_neg (by omega), if_neg (by omega), if_neg (by omega), if_neg (by omega), if_neg (by omega)] at e9
                  refine ⟨(k + 1, stk, st, Q ++ [(0, ((at_ l (k : Int)).toNat : Int), [])], P ++ [(0, ((at_ l (k : Int)).toNat : Int), .slice none 0 0)], lv2, .slice sa st.length sc, .slice aa ats.length ac, ats, J), ⟨rfl, rfl, rfl, trivial⟩, ⟨by omega, by rw [List.length_append]; simp; omega, hst, hlen4, hats, hF.app _, hR.snoc _ _ _ _ (IntsI.nil _), hJ, e9, ?_⟩, by dsimp only; omega⟩
                  rw [List.length_append, List.flatMap_append]; exact hS
    ·
      have hc18 := hb18; try simp only [decide_eq_true_eq, decide_eq_false_iff_not, beq_iff_eq, beq_eq_false_iff_ne, bne_iff_ne, Bool.not_eq_true', Bool.not_eq_false', Bool.or_eq_true, Bool.and_eq_true, Bool.or_eq_false_iff, Bool.and_eq_false_iff, ne_eq, Int.not_lt, Int.not_le, bne_eq_false_iff_eq, Bool.not_eq_true, Bool.not_eq_false] at hc18
      refine WC.exit ?_
      refine WC.seq ?_
      refine WC.seq ?_
      refine WC.region ?_
      refine WL.val (.move (.of rfl)) rfl ?_
      refine WL.val (.nilCheck (.of rfl)) rfl ?_
      first | refine WL.val (.fieldAddr 2 (.of rfl) Try.underlying42 rfl rfl Try.sizeOf40 rfl) rfl ?_ | refine WL.val (.fieldAddrI 2 (.of rfl) Try.underlying42 rfl rfl Try.sizeOf40 rfl) rfl ?_
      first | refine WL.val (.ld (.of rfl) hS (k := 0) rfl Try.isAgg40 rfl) rfl ?_ | refine WL.val (.ld (.of rfl) hS (k := 1) rfl Try.isAgg40 rfl) rfl ?_ | refine WL.val (.ld (.of rfl) hS (k := 2) rfl Try.isAgg40 rfl) rfl ?_ | refine WL.val (.ld (.of rfl) hS (k := 3) rfl Try.isAgg40 rfl) rfl ?_ | refine WL.val (.ld (.of rfl) hS (k := 4) rfl Try.isAgg40 rfl) rfl ?_
      refine WL.val (.lenSlice (.of rfl) Try.underlying40) rfl ?_
      refine WL.val (.assign (.of rfl)) rfl ?_
      refine WL.nil ?_
      refine WC.seq ?_
      refine WC.region ?_
      refine WL.val (.move (.of rfl)) rfl ?_
      refine WL.val (.gtr (.of rfl) (.of rfl)) rfl ?_
      refine WL.nil ?_
      refine WC.cond rfl (fun hb112 => ?_) (fun hb112 => ?_)
      ·
        have hc112 := hb112; try simp only [decide_eq_true_eq, decide_eq_false_iff_not, beq_iff_eq, beq_eq_false_iff_ne, bne_iff_ne, Bool.not_eq_true', Bool.not_eq_false', Bool.or_eq_true, Bool.and_eq_true, Bool.or_eq_false_iff, Bool.and_eq_false_iff, ne_eq, Int.not_lt, Int.not_le, bne_eq_false_iff_eq, Bool.not_eq_true, Bool.not_eq_false] at hc112
        refine WC.seq ?_
        obtain ⟨b8, c8, r, hv8, _, _, _, _, hS⟩ := hS.vecOpen (k := 3) rfl (by omega)
        injection hv8 with hv8 _ hv9; subst hv8; subst hv9; try dsimp only [List.set] at hS
        refine WC.quiet (by kernel_rfl) (by kernel_rfl) hS ?_
        refine WQ.val (fun w hS => (.move (.of rfl))) rfl ?_
        refine WQ.val (fun w hS => (.nilCheck (.of rfl))) rfl ?_
        refine WQ.val (fun w hS => (by first | exact .fieldAddr 2 (.of rfl) Try.underlying42 rfl rfl Try.sizeOf40 rfl | exact .fieldAddrI 2 (.of rfl) Try.underlying42 rfl rfl Try.sizeOf40 rfl)) rfl ?_
        refine WQ.val (fun w hS => (by first | exact (.ld (.of rfl) hS (k := 0) rfl Try.isAgg40 rfl) | exact (.ld (.of rfl) hS (k := 1) rfl Try.isAgg40 rfl) | exact (.ld (.of rfl) hS (k := 2) rfl Try.isAgg40 rfl) | exact (.ld (.of rfl) hS (k := 3) rfl Try.isAgg40 rfl) | exact (.ld (.of rfl) hS (k := 4) rfl Try.isAgg40 rfl))) rfl ?_
        refine WQ.val (fun w hS => (.move (.of rfl))) rfl ?_
        refine WQ.val (fun w hS => (.sub (.of rfl) (.of rfl) ⟨by omega, by omega⟩)) rfl ?_
        refine WQ.val (fun w hS => (by first | exact .indexAddr (.of rfl) (.of rfl) (by omega) (by omega) Try.underlying40 Try.sizeOf3 | exact .indexAddrI (.of rfl) (.of rfl) (by omega) (by omega) Try.underlying40 Try.sizeOf3)) rfl ?_
        refine WQ.val (fun w hS => .ldE I64 ats 0 r (.of rfl) hS (k := 3) rfl rfl Try.isAgg3 (by omega) (by omega)) rfl ?_
        refine WQ.val (fun w hS => (.assign (.of rfl))) rfl ?_
        refine WQ.val (fun w hS => (.assign (.of rfl))) rfl ?_
        refine WQ.val (fun w hS => (.assign (.of rfl))) rfl ?_
        refine WQ.nil ?_
        clear hS; intro w hS
        refine WC.ret ?_
        refine ret3 Try.results11 rfl rfl rfl ?_
        have e9 : cmp l = .error (23, ats.getD ((ats.length : Int) - 1).toNat 0) := by rw [← hq, show ((ats.length : Int) - 1).toNat = ats.length - 1 by omega, List.drop_of_length_le (by omega), cmpGo_nil, if_pos (by omega)]
        exact ⟨_, rfl, .inl ⟨_, _, J, e9, rfl, hJ, ((((hS.drop (k := 0) rfl).drop (k := 0) rfl).drop (k := 0) rfl).drop (k := 0) rfl).drop (k := 0) rfl⟩⟩
      ·
        have hc112 := hb112; try simp only [decide_eq_true_eq, decide_eq_false_iff_not, beq_iff_eq, beq_eq_false_iff_ne, bne_iff_ne, Bool.not_eq_true', Bool.not_eq_false', Bool.or_eq_true, Bool.and_eq_true, Bool.or_eq_false_iff, Bool.and_eq_false_iff, ne_eq, Int.not_lt, Int.not_le, bne_eq_false_iff_eq, Bool.not_eq_true, Bool.not_eq_false] at hc112
        refine WC.skip ?_
        refine WC.seq ?_
        refine WC.region ?_
        refine WL.val (.move (.of rfl)) rfl ?_
        refine WL.call Try.func19 rfl (evs_cons (.of rfl) (evs_cons (.of rfl) (evs_cons (.of rfl) evs_nil))) rfl (put_any _ P.length _ _ _ _ _ _ _ _ _ _ hS (by omega)) ?_
        clear hS
        rintro _ w ⟨rfl, lv2, hS⟩
        refine WL.nil ?_
        refine WC.seq ?_
        obtain ⟨a9, c9, rfl, hcap9, _⟩ := hS.vecSlice (k := 1) rfl
        refine WC.region ?_
        refine WL.val (.move (.of rfl)) rfl ?_
        refine WL.val (.nilCheck (.of rfl)) rfl ?_
        first | refine WL.val (.fieldAddr 0 (.of rfl) Try.underlying42 rfl rfl Try.sizeOf38 rfl) rfl ?_ | refine WL.val (.fieldAddrI 0 (.of rfl) Try.underlying42 rfl rfl Try.sizeOf38 rfl) rfl ?_
        first | refine WL.val (.ld (.of rfl) hS (k := 0) rfl Try.isAgg38 rfl) rfl ?_ | refine WL.val (.ld (.of rfl) hS (k := 1) rfl Try.isAgg38 rfl) rfl ?_ | refine WL.val (.ld (.of rfl) hS (k := 2) rfl Try.isAgg38 rfl) rfl ?_ | refine WL.val (.ld (.of rfl) hS (k := 3) rfl Try.isAgg38 rfl) rfl ?_ | refine WL.val (.ld (.of rfl) hS (k := 4) rfl Try.isAgg38 rfl) rfl ?_
        refine WL.val (.move (.of rfl)) rfl ?_
        refine WL.val (.len (.of rfl) Try.underlying9) rfl ?_
        refine WL.val (.build (cs := [_, _]) (parts_cons (.of rfl) (parts_cons (.of rfl) parts_nil)) bld46 rfl) rfl ?_
        refine WL.boxA (cs := [_, _]) hS (.of rfl) rfl ?_
        clear hS; intro b130 w hS
        refine WL.val (.assign (.of rfl)) rfl ?_
        refine WL.val (.assign (.of rfl)) rfl ?_
        refine WL.val (.assign (.of rfl)) rfl ?_
        refine WL.nil ?_
        refine WC.ret ?_
        refine ret3 Try.results11 rfl rfl rfl ?_
        have e9 : cmp l = .ok (Q ++ [(7, 0, [])]) := by rw [← hq, List.drop_of_length_le (by omega), cmpGo_nil, if_neg (by omega)]
        obtain ⟨J2, hJ2, hrs, hS⟩ := hS.freezeVec (k := 2) rfl; try dsimp only [List.eraseIdx] at hS
        obtain ⟨J3, hJ3, hb9, hS⟩ := hS.freeze (k := 0) rfl; try dsimp only [List.eraseIdx] at hS
        refine ⟨_, rfl, .inr ⟨_, _, J3, e9, rfl, (hJ.trans hJ2).trans hJ3, ⟨a9, c9, P ++ [(7, 0, .slice none 0 0)], ?_, ?_, ?_, ?_⟩, (((hS.drop (k := 0) rfl).drop (k := 0) rfl).drop (k := 0) rfl).drop (k := 0) rfl⟩⟩
        · refine ⟨rfl, _, _, _, hb9, fun j u hj => ?_⟩
          rw [List.length_append] at hj
          simpa using hj
        · simpa using hcap9
        · rw [List.length_append, List.flatMap_append]; exact hrs.mono hJ3
        · exact ((hR.snoc _ _ _ _ (IntsI.nil _)).mono hJ2).mono hJ3
end Go.Proofs.Ytigmejjkmoaimaa
