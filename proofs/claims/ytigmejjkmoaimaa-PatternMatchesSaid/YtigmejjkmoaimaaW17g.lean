/- Chapter 17: the reference's matching. -/
import Derived.Test.YtigmejjkmoaimaaW17f
import Derived.Test.YtigmejjkmoaimaaPatO
namespace Go.Proofs.Ytigmejjkmoaimaa
open Gk Pat
set_option linter.unusedVariables false
set_option linter.unusedSimpArgs false

theorem bars_esc {l : List UInt8} {k : Nat} {d : Int} {out X : List Int} (h : (match l.drop (k + 1) with | [] => out | _ :: r' => barsGo r' ((k : Int) + 2) d out) = X) : barsGo (l.drop (k + 2)) ((k : Int) + 2) d out = X := by
  cases hd : l.drop (k + 1) with
  | nil =>
    rw [hd] at h
    have e : l.drop (k + 2) = [] := by rw [List.drop_eq_nil_iff] at hd ⊢; omega
    rw [e, barsGo_nil]; exact h
  | cons x r =>
    rw [hd] at h
    have e : l.drop (k + 2) = r := by rw [show k + 2 = (k + 1) + 1 from rfl, ← List.drop_drop, hd]; rfl
    rw [e]; exact h
set_option maxHeartbeats 800000 in
theorem bars_any (l : List UInt8) (i : Nat) (hi : i < l.length) (hl : l.length ≤ 1000000) (B w : World) (I : Im) (As : List Assn) (hS : Sat B w I As) :
    Calls Try.prog 32 [S l, I64 (i : Nat)].toArray w (Ret fun v w' => ∃ J a c, Le I J ∧ v = .slice a (barsGo (l.drop i) i 0 []).length c ∧ RS J a 1 (barsGo (l.drop i) i 0 []).length ((barsGo (l.drop i) i 0 []).map I64) ∧ Sat B w' J As) := by
  refine calls Try.func32 rfl Try.ntmps32 rfl ?_
  refine WC.seq ?_
  refine WC.region ?_
  refine WL.val (.assign (.of rfl)) rfl ?_
  refine WL.nil ?_
  refine WC.seq ?_
  refine WC.region ?_
  refine WL.val (.assign (.of rfl)) rfl ?_
  replace hS := hS.vecNil 3 1
  refine WL.nil ?_
  refine WC.seq ?_
  refine WC.region ?_
  refine WL.val (.assign (.of rfl)) rfl ?_
  refine WL.nil ?_
  refine WC.seq ?_
  refine WC.seq ?_
  refine WC.region ?_
  refine WL.val (.move (.of rfl)) rfl ?_
  refine WL.val (.assign (.of rfl)) rfl ?_
  refine WL.nil ?_
  refine WC.block ?_
  refine WC.loop (σ := Nat × Int × Value × List Int) (fun ⟨k, deep, v, out⟩ => [(0, S l), (5, v), (6, I64 deep), (7, I64 (k : Nat))]) (fun ⟨k, deep, v, out⟩ w => k ≤ l.length + 1 ∧ -(k : Int) ≤ deep ∧ deep ≤ k ∧ out.length ≤ k ∧ barsGo (l.drop k) k deep out = barsGo (l.drop i) i 0 [] ∧ Sat B w I (Vec 3 1 v out.length (out.map I64) :: As)) (fun ⟨k, deep, v, out⟩ => l.length + 1 - k) (i, 0, .slice none 0 0, []) ⟨rfl, rfl, rfl, rfl, trivial⟩ ⟨by omega, by omega, by omega, by simp, rfl, hS⟩ ?_
  rintro ⟨k, deep, v, out⟩ w ⟨hk, hd1, hd2, hol, hq, hS⟩
  change WC _ _ _ _ [(0, S l), (5, v), (6, I64 deep), (7, I64 (k : Nat))] w
  refine WC.seq ?_
  refine WC.seq ?_
  refine WC.region ?_
  refine WL.val (.move (.of rfl)) rfl ?_
  refine WL.val (.move (.of rfl)) rfl ?_
  refine WL.val (.len (.of rfl) Try.underlying9) rfl ?_
  refine WL.val (.lss (.of rfl) (.of rfl)) rfl ?_
  refine WL.nil ?_
  refine WC.cond rfl (fun hb12 => ?_) (fun hb12 => ?_)
  ·
    have hc12 := hb12; try simp only [decide_eq_true_eq, decide_eq_false_iff_not, beq_iff_eq, beq_eq_false_iff_ne, bne_iff_ne, Bool.not_eq_true', Bool.not_eq_false', Bool.or_eq_true, Bool.and_eq_true, Bool.or_eq_false_iff, Bool.and_eq_false_iff, ne_eq, Int.not_lt, Int.not_le, bne_eq_false_iff_eq, Bool.not_eq_true, Bool.not_eq_false] at hc12
    refine WC.skip ?_
    refine WC.seq ?_
    refine WC.block ?_
    refine WC.seq ?_
    refine WC.region ?_
    refine WL.val (.move (.of rfl)) rfl ?_
    refine WL.val (.move (.of rfl)) rfl ?_
    refine WL.val (.index (.of rfl) (.of rfl) (by omega) (by omega) Try.underlying9) rfl ?_
    refine WL.nil ?_
    refine WC.block ?_
    refine WC.seq ?_
    refine WC.region ?_
    refine WL.val (.eql (.of rfl) (.of rfl)) rfl ?_
    refine WL.val (.assign (.of rfl)) rfl ?_
    refine WL.nil ?_
    refine WC.cond rfl (fun hb18 => ?_) (fun hb18 => ?_)
    ·
      have hc18 := hb18; try simp only [decide_eq_true_eq, decide_eq_false_iff_not, beq_iff_eq, beq_eq_false_iff_ne, bne_iff_ne, Bool.not_eq_true', Bool.not_eq_false', Bool.or_eq_true, Bool.and_eq_true, Bool.or_eq_false_iff, Bool.and_eq_false_iff, ne_eq, Int.not_lt, Int.not_le, bne_eq_false_iff_eq, Bool.not_eq_true, Bool.not_eq_false] at hc18
      refine WC.region ?_
      refine WL.val (.move (.of rfl)) rfl ?_
      refine WL.val (.add (.of rfl) (.of rfl) ⟨by omega, by omega⟩) rfl ?_
      refine WL.val (.assign (.of rfl)) rfl ?_
      refine WL.nil ?_
      refine WC.region ?_
      refine WL.val (.move (.of rfl)) rfl ?_
      refine WL.val (.add (.of rfl) (.of rfl) ⟨by omega, by omega⟩) rfl ?_
      refine WL.val (.assign (.of rfl)) rfl ?_
      refine WL.nil ?_
      have e9 := hq
      rw [drop_at l (by omega), barsGo_cons, if_pos (by omega)] at e9
      have e9 := bars_esc e9
      refine ⟨(k + 2, deep, v, out), ⟨rfl, rfl, rfl, rfl, trivial⟩, ⟨by omega, by omega, by omega, by (try simp only [List.length_append, List.length_singleton]); omega, ?_, ?_⟩, by dsimp only; omega⟩
      · exact e9
      · exact hS
    ·
      have hc18 := hb18; try simp only [decide_eq_true_eq, decide_eq_false_iff_not, beq_iff_eq, beq_eq_false_iff_ne, bne_iff_ne, Bool.not_eq_true', Bool.not_eq_false', Bool.or_eq_true, Bool.and_eq_true, Bool.or_eq_false_iff, Bool.and_eq_false_iff, ne_eq, Int.not_lt, Int.not_le, bne_eq_false_iff_eq, Bool.not_eq_true, Bool.not_eq_false] at hc18
      refine WC.seq ?_
      refine WC.region ?_
      refine WL.val (.eql (.of rfl) (.of rfl)) rfl ?_
      refine WL.val (.assign (.of rfl)) rfl ?_
      refine WL.nil ?_
      refine WC.cond rfl (fun hb22 => ?_) (fun hb22 => ?_)
      ·
        have hc22 := hb22; try simp only [decide_eq_true_eq, decide_eq_false_iff_not, beq_iff_eq, beq_eq_false_iff_ne, bne_iff_ne, Bool.not_eq_true', Bool.not_eq_false', Bool.or_eq_true, Bool.and_eq_true, Bool.or_eq_false_iff, Bool.and_eq_false_iff, ne_eq, Int.not_lt, Int.not_le, bne_eq_false_iff_eq, Bool.not_eq_true, Bool.not_eq_false] at hc22
        refine WC.region ?_
        refine WL.val (.move (.of rfl)) rfl ?_
        refine WL.val (.add (.of rfl) (.of rfl) ⟨by omega, by omega⟩) rfl ?_
        refine WL.val (.assign (.of rfl)) rfl ?_
        refine WL.nil ?_
        refine WC.region ?_
        refine WL.val (.move (.of rfl)) rfl ?_
        refine WL.val (.add (.of rfl) (.of rfl) ⟨by omega, by omega⟩) rfl ?_
        refine WL.val (.assign (.of rfl)) rfl ?_
        refine WL.nil ?_
        have e9 := hq
        rw [drop_at l (by omega), barsGo_cons, if_neg (by omega), if_pos (by omega)] at e9
        refine ⟨(k + 1, deep + 1, v, out), ⟨rfl, rfl, rfl, rfl, trivial⟩, ⟨by omega, by omega, by omega, by (try simp only [List.length_append, List.length_singleton]); omega, ?_, ?_⟩, by dsimp only; omega⟩
        · exact e9
        · exact hS
      ·
        have hc22 := hb22; try simp only [decide_eq_true_eq, decide_eq_false_iff_not, beq_iff_eq, beq_eq_false_iff_ne, bne_iff_ne, Bool.not_eq_true', Bool.not_eq_false', Bool.or_eq_true, Bool.and_eq_true, Bool.or_eq_false_iff, Bool.and_eq_false_iff, ne_eq, Int.not_lt, Int.not_le, bne_eq_false_iff_eq, Bool.not_eq_true, Bool.not_eq_false] at hc22
        refine WC.seq ?_
        refine WC.region ?_
        refine WL.val (.eql (.of rfl) (.of rfl)) rfl ?_
        refine WL.val (.assign (.of rfl)) rfl ?_
        refine WL.nil ?_
        refine WC.cond rfl (fun hb26 => ?_) (fun hb26 => ?_)
        ·
          have hc26 := hb26; try simp only [decide_eq_true_eq, decide_eq_false_iff_not, beq_iff_eq, beq_eq_false_iff_ne, bne_iff_ne, Bool.not_eq_true', Bool.not_eq_false', Bool.or_eq_true, Bool.and_eq_true, Bool.or_eq_false_iff, Bool.and_eq_false_iff, ne_eq, Int.not_lt, Int.not_le, bne_eq_false_iff_eq, Bool.not_eq_true, Bool.not_eq_false] at hc26
          refine WC.seq ?_
          refine WC.region ?_
          refine WL.val (.move (.of rfl)) rfl ?_
          refine WL.val (.eql (.of rfl) (.of rfl)) rfl ?_
          refine WL.nil ?_
          refine WC.cond rfl (fun hb29 => ?_) (fun hb29 => ?_)
          ·
            have hc29 := hb29; try simp only [decide_eq_true_eq, decide_eq_false_iff_not, beq_iff_eq, beq_eq_false_iff_ne, bne_iff_ne, Bool.not_eq_true', Bool.not_eq_false', Bool.or_eq_true, Bool.and_eq_true, Bool.or_eq_false_iff, Bool.and_eq_false_iff, ne_eq, Int.not_lt, Int.not_le, bne_eq_false_iff_eq, Bool.not_eq_true, Bool.not_eq_false] at hc29
            refine WC.region ?_
            refine WL.val (.move (.of rfl)) rfl ?_
            refine WL.val (.move (.of rfl)) rfl ?_
            refine WL.buildSlice (cs := [_]) hS (parts_cons (.of rfl) parts_nil) Try.underlying40 Try.sizeOf3 Try.zeroValue3 rfl rfl rfl rfl ?_
            clear hS; intro b32 w hS
            first | refine WL.append (size := 1) (bytes := 8) hS (.of rfl) (.of rfl) (k := 0) rfl Try.underlying40 Try.type3 rfl rfl rfl rfl rfl rfl rfl ⟨by omega, by unfold maxLen; omega⟩ rfl ?_
            clear hS; intro v33 w hS; try dsimp only [List.set] at hS
            first | obtain ⟨a33, c33, rfl, hcap33, _⟩ := hS.vecSlice (k := 0) (v := v33) rfl
            refine WL.val (.assign (.of rfl)) rfl ?_
            refine WL.nil ?_
            refine WC.region ?_
            refine WL.val (.move (.of rfl)) rfl ?_
            refine WL.val (.add (.of rfl) (.of rfl) ⟨by omega, by omega⟩) rfl ?_
            refine WL.val (.assign (.of rfl)) rfl ?_
            refine WL.nil ?_
            have e9 := hq
            rw [drop_at l (by omega), barsGo_cons, if_neg (by omega), if_neg (by omega), if_pos (by omega), if_pos (by omega)] at e9
            refine ⟨(k + 1, deep, .slice a33 (out.length + 1) c33, out ++ [(k : Int)]), ⟨rfl, rfl, rfl, rfl, trivial⟩, ⟨by omega, by omega, by omega, by (try simp only [List.length_append, List.length_singleton]); omega, ?_, ?_⟩, by dsimp only; omega⟩
            · exact e9
            · rw [List.length_append, List.map_append]; exact hS
          ·
            have hc29 := hb29; try simp only [decide_eq_true_eq, decide_eq_false_iff_not, beq_iff_eq, beq_eq_false_iff_ne, bne_iff_ne, Bool.not_eq_true', Bool.not_eq_false', Bool.or_eq_true, Bool.and_eq_true, Bool.or_eq_false_iff, Bool.and_eq_false_iff, ne_eq, Int.not_lt, Int.not_le, bne_eq_false_iff_eq, Bool.not_eq_true, Bool.not_eq_false] at hc29
            refine WC.skip ?_
            refine WC.region ?_
            refine WL.val (.move (.of rfl)) rfl ?_
            refine WL.val (.add (.of rfl) (.of rfl) ⟨by omega, by omega⟩) rfl ?_
            refine WL.val (.assign (.of rfl)) rfl ?_
            refine WL.nil ?_
            have e9 := hq
            rw [drop_at l (by omega), barsGo_cons, if_neg (by omega), if_neg (by omega), if_pos (by omega), if_neg (by omega)] at e9
            refine ⟨(k + 1, deep, v, out), ⟨rfl, rfl, rfl, rfl, trivial⟩, ⟨by omega, by omega, by omega, by (try simp only [List.length_append, List.length_singleton]); omega, ?_, ?_⟩, by dsimp only; omega⟩
            · exact e9
            · exact hS
        ·
          have hc26 := hb26; try simp only [decide_eq_true_eq, decide_eq_false_iff_not, beq_iff_eq, beq_eq_false_iff_ne, bne_iff_ne, Bool.not_eq_true', Bool.not_eq_false', Bool.or_eq_true, Bool.and_eq_true, Bool.or_eq_false_iff, Bool.and_eq_false_iff, ne_eq, Int.not_lt, Int.not_le, bne_eq_false_iff_eq, Bool.not_eq_true, Bool.not_eq_false] at hc26
          refine WC.seq ?_
          refine WC.region ?_
          refine WL.val (.eql (.of rfl) (.of rfl)) rfl ?_
          refine WL.val (.assign (.of rfl)) rfl ?_
          refine WL.nil ?_
          refine WC.cond rfl (fun hb34 => ?_) (fun hb34 => ?_)
          ·
            have hc34 := hb34; try simp only [decide_eq_true_eq, decide_eq_false_iff_not, beq_iff_eq, beq_eq_false_iff_ne, bne_iff_ne, Bool.not_eq_true', Bool.not_eq_false', Bool.or_eq_true, Bool.and_eq_true, Bool.or_eq_false_iff, Bool.and_eq_false_iff, ne_eq, Int.not_lt, Int.not_le, bne_eq_false_iff_eq, Bool.not_eq_true, Bool.not_eq_false] at hc34
            refine WC.seq ?_
            refine WC.region ?_
            refine WL.val (.move (.of rfl)) rfl ?_
            refine WL.val (.sub (.of rfl) (.of rfl) ⟨by omega, by omega⟩) rfl ?_
            refine WL.val (.assign (.of rfl)) rfl ?_
            refine WL.nil ?_
            refine WC.seq ?_
            refine WC.region ?_
            refine WL.val (.move (.of rfl)) rfl ?_
            refine WL.val (.eql (.of rfl) (.of rfl)) rfl ?_
            refine WL.nil ?_
            refine WC.cond rfl (fun hb39 => ?_) (fun hb39 => ?_)
            ·
              have hc39 := hb39; try simp only [decide_eq_true_eq, decide_eq_false_iff_not, beq_iff_eq, beq_eq_false_iff_ne, bne_iff_ne, Bool.not_eq_true', Bool.not_eq_false', Bool.or_eq_true, Bool.and_eq_true, Bool.or_eq_false_iff, Bool.and_eq_false_iff, ne_eq, Int.not_lt, Int.not_le, bne_eq_false_iff_eq, Bool.not_eq_true, Bool.not_eq_false] at hc39
              refine WC.seq ?_
              refine WC.region ?_
              refine WL.val (.move (.of rfl)) rfl ?_
              refine WL.val (.move (.of rfl)) rfl ?_
              refine WL.buildSlice (cs := [_]) hS (parts_cons (.of rfl) parts_nil) Try.underlying40 Try.sizeOf3 Try.zeroValue3 rfl rfl rfl rfl ?_
              clear hS; intro b42 w hS
              first | refine WL.append (size := 1) (bytes := 8) hS (.of rfl) (.of rfl) (k := 0) rfl Try.underlying40 Try.type3 rfl rfl rfl rfl rfl rfl rfl ⟨by omega, by unfold maxLen; omega⟩ rfl ?_
              clear hS; intro v43 w hS; try dsimp only [List.set] at hS
              first | obtain ⟨a43, c43, rfl, hcap43, _⟩ := hS.vecSlice (k := 0) (v := v43) rfl
              refine WL.val (.assign (.of rfl)) rfl ?_
              refine WL.nil ?_
              refine WC.ret ?_
              refine ret1 Try.results32 rfl ?_
              have e9 := hq
              rw [drop_at l (by omega), barsGo_cons, if_neg (by omega), if_neg (by omega), if_neg (by omega), if_pos (by omega), if_pos (by omega)] at e9
              rw [← e9]
              obtain ⟨J, hJ, hrs, hS⟩ := hS.freezeVec (k := 0) rfl
              exact ⟨_, rfl, J, _, _, hJ, by rw [List.length_append]; rfl, by rw [List.length_append, List.map_append]; exact hrs, hS⟩
            ·
              have hc39 := hb39; try simp only [decide_eq_true_eq, decide_eq_false_iff_not, beq_iff_eq, beq_eq_false_iff_ne, bne_iff_ne, Bool.not_eq_true', Bool.not_eq_false', Bool.or_eq_true, Bool.and_eq_true, Bool.or_eq_false_iff, Bool.and_eq_false_iff, ne_eq, Int.not_lt, Int.not_le, bne_eq_false_iff_eq, Bool.not_eq_true, Bool.not_eq_false] at hc39
              refine WC.skip ?_
              refine WC.region ?_
              refine WL.val (.move (.of rfl)) rfl ?_
              refine WL.val (.add (.of rfl) (.of rfl) ⟨by omega, by omega⟩) rfl ?_
              refine WL.val (.assign (.of rfl)) rfl ?_
              refine WL.nil ?_
              have e9 := hq
              rw [drop_at l (by omega), barsGo_cons, if_neg (by omega), if_neg (by omega), if_neg (by omega), if_pos (by omega), if_neg (by omega)] at e9
              refine ⟨(k + 1, deep - 1, v, out), ⟨rfl, rfl, rfl, rfl, trivial⟩, ⟨by omega, by omega, by omega, by (try simp only [List.length_append, List.length_singleton]); omega, ?_, ?_⟩, by dsimp only; omega⟩
              · exact e9
              · exact hS
          ·
            have hc34 := hb34; try simp only [decide_eq_true_eq, decide_eq_false_iff_not, beq_iff_eq, beq_eq_false_iff_ne, bne_iff_ne, Bool.not_eq_true', Bool.not_eq_false', Bool.or_eq_true, Bool.and_eq_true, Bool.or_eq_false_iff, Bool.and_eq_false_iff, ne_eq, Int.not_lt, Int.not_le, bne_eq_false_iff_eq, Bool.not_eq_true, Bool.not_eq_false] at hc34
            refine WC.skip ?_
            refine WC.region ?_
            refine WL.val (.move (.of rfl)) rfl ?_
            refine WL.val (.add (.of rfl) (.of rfl) ⟨by omega, by omega⟩) rfl ?_
            refine WL.val (.assign (.of rfl)) rfl ?_
            refine WL.nil ?_
            have e9 := hq
            rw [drop_at l (by omega), barsGo_cons, if_neg (by omega), if_neg (by omega), if_neg (by omega), if_neg (by omega)] at e9
            refine ⟨(k + 1, deep, v, out), ⟨rfl, rfl, rfl, rfl, trivial⟩, ⟨by omega, by omega, by omega, by (try simp only [List.length_append, List.length_singleton]); omega, ?_, ?_⟩, by dsimp only; omega⟩
            · exact e9
            · exact hS
  ·
    have hc12 := hb12; try simp only [decide_eq_true_eq, decide_eq_false_iff_not, beq_iff_eq, beq_eq_false_iff_ne, bne_iff_ne, Bool.not_eq_true', Bool.not_eq_false', Bool.or_eq_true, Bool.and_eq_true, Bool.or_eq_false_iff, Bool.and_eq_false_iff, ne_eq, Int.not_lt, Int.not_le, bne_eq_false_iff_eq, Bool.not_eq_true, Bool.not_eq_false] at hc12
    refine WC.exit ?_
    refine WC.seq ?_
    refine WC.region ?_
    refine WL.val (.move (.of rfl)) rfl ?_
    refine WL.val (.assign (.of rfl)) rfl ?_
    refine WL.nil ?_
    refine WC.ret ?_
    refine ret1 Try.results32 rfl ?_
    obtain ⟨va, vc, rfl, _, _⟩ := hS.vecSlice (k := 0) rfl
    have e9 := hq
    rw [List.drop_of_length_le (by omega), barsGo_nil] at e9
    rw [← e9]
    obtain ⟨J, hJ, hrs, hS⟩ := hS.freezeVec (k := 0) rfl
    exact ⟨_, rfl, J, _, _, hJ, rfl, hrs, hS⟩
theorem ends_u {s : List UInt8} {fr0 fr : List Bool} {D : Lang} (hE : EndsAt s fr0 D fr) (p : Addr) (c : Nat) (kind : Int) (own : UInt8) (many : Bool) (k c0 : Int) (hu : ∀ x, takes kind own x = fitsP k c0 x) (hm : many = true ↔ (k = 2 ∨ k = 3)) (B w : World) (I : Im) (As : List Assn) (hS : Sat B w I As) (hp : At I p (fr.map Value.bool)) (hb : s.length ≤ 1000000) :
    Calls Try.prog 31 [S s, .slice (some p) (s.length + 1) c, I64 kind, U8 own.toNat, .bool many].toArray w (Ret fun v w' => ∃ J q R, Le I J ∧ v = .slice (some q) (s.length + 1) (s.length + 1) ∧ At J q (R.map Value.bool) ∧ EndsAt s fr0 (cat D (unit k c0)) R ∧ Sat B w' J As) := by
  have h := ends_any s fr p c kind own many B w I As hS hp hE.1 hb
  rw [hE.1] at h
  refine h.mono fun x w' ⟨v, hx, J, q, h1, h2, h3, h4⟩ => ⟨v, hx, J, q, _, h1, h2, h3, hE.cat (ends_unit hu hm), h4⟩
theorem last_get {ps : List Int} {x : Int} : (ps ++ [x]).getD (((ps ++ [x]).length : Int) - 1).toNat 0 = x := by
  have e : (((ps ++ [x]).length : Int) - 1).toNat = ps.length := by simp
  rw [e, List.getD_eq_getElem?_getD]; simp
set_option maxHeartbeats 1600000 in
theorem walk_any (s : List UInt8) (hs : s.length ≤ 100000) : ∀ (n : Nat) (l : List UInt8) (p : Pt), l.length < n → Rep l p → p.flat → l.length ≤ 100000 → ∀ (fr0 : List Bool) (pa0 : Addr) (c0 : Nat) (B w : World) (I : Im) (As : List Assn), Sat B w I As → At I pa0 (fr0.map Value.bool) → fr0.length = s.length + 1 →
    Calls Try.prog 24 [S l, S s, .slice (some pa0) (s.length + 1) c0].toArray w (Ret fun v w' => ∃ J q c R, Le I J ∧ v = .slice (some q) (s.length + 1) c ∧ At J q (R.map Value.bool) ∧ EndsAt s fr0 (sem p).1 R ∧ Sat B w' J As) := by
  intro n
  induction n with
  | zero =>
    intro l p hn
    omega
  | succ n ih =>
    intro l p hn hR0 hf0 hl fr0 pa0 c0 B w I As hS hA0 hfr0
    refine calls Try.func24 rfl Try.ntmps24 rfl ?_
    refine WC.seq ?_
    refine WC.region ?_
    refine WL.val (.assign (.of rfl)) rfl ?_
    refine WL.nil ?_
    refine WC.seq ?_
    refine WC.seq ?_
    refine WC.region ?_
    refine WL.val (.assign (.of rfl)) rfl ?_
    refine WL.nil ?_
    refine WC.block ?_
    refine WC.loop (σ := Nat × Pt × Lang × List Bool × Addr × Nat × Im) (fun ⟨k, r, D, fr, pa, c1, J⟩ => [(0, S l), (1, S s), (2, .slice (some pa) (s.length + 1) c1), (7, I64 (k : Nat))]) (fun ⟨k, r, D, fr, pa, c1, J⟩ w => k ≤ l.length ∧ Rep (l.drop k) r ∧ r.flat ∧ (∀ u, (sem p).1 u ↔ cat D (sem r).1 u) ∧ EndsAt s fr0 D fr ∧ At J pa (fr.map Value.bool) ∧ Le I J ∧ Sat B w J As) (fun ⟨k, r, D, fr, pa, c1, J⟩ => l.length - k) (0, p, (fun u => u = []), fr0, pa0, c0, I) ⟨rfl, rfl, rfl, rfl, trivial⟩ ⟨Nat.zero_le _, hR0, hf0, fun u => (cat_nil _ u).symm, EndsAt.nil hfr0, hA0, Le.refl I, hS⟩ ?_
    rintro ⟨k, r, D, fr, pa, c1, J⟩ w ⟨hk, hR, hfl, hsem, hE, hA, hJ, hS⟩
    change WC _ _ _ _ [(0, S l), (1, S s), (2, .slice (some pa) (s.length + 1) c1), (7, I64 (k : Nat))] w
    refine WC.seq ?_
    refine WC.seq ?_
    refine WC.region ?_
    refine WL.val (.move (.of rfl)) rfl ?_
    refine WL.val (.move (.of rfl)) rfl ?_
    refine WL.val (.len (.of rfl) Try.underlying9) rfl ?_
    refine WL.val (.lss (.of rfl) (.of rfl)) rfl ?_
    refine WL.nil ?_
    refine WC.cond rfl (fun hb17 => ?_) (fun hb17 => ?_)
    ·
      have hc17 := hb17; try simp only [decide_eq_true_eq, decide_eq_false_iff_not, beq_iff_eq, beq_eq_false_iff_ne, bne_iff_ne, Bool.not_eq_true', Bool.not_eq_false', Bool.or_eq_true, Bool.and_eq_true, Bool.or_eq_false_iff, Bool.and_eq_false_iff, ne_eq, Int.not_lt, Int.not_le, bne_eq_false_iff_eq, Bool.not_eq_true, Bool.not_eq_false] at hc17
      refine WC.skip ?_
      refine WC.seq ?_
      refine WC.block ?_
      refine WC.seq ?_
      refine WC.region ?_
      refine WL.val (.move (.of rfl)) rfl ?_
      refine WL.val (.move (.of rfl)) rfl ?_
      refine WL.val (.index (.of rfl) (.of rfl) (by omega) (by omega) Try.underlying9) rfl ?_
      refine WL.nil ?_
      refine WC.block ?_
      refine WC.seq ?_
      refine WC.region ?_
      refine WL.val (.eql (.of rfl) (.of rfl)) rfl ?_
      refine WL.val (.assign (.of rfl)) rfl ?_
      refine WL.nil ?_
      refine WC.cond rfl (fun hb29 => ?_) (fun hb29 => ?_)
      ·
        have hc29 := hb29; try simp only [decide_eq_true_eq, decide_eq_false_iff_not, beq_iff_eq, beq_eq_false_iff_ne, bne_iff_ne, Bool.not_eq_true', Bool.not_eq_false', Bool.or_eq_true, Bool.and_eq_true, Bool.or_eq_false_iff, Bool.and_eq_false_iff, ne_eq, Int.not_lt, Int.not_le, bne_eq_false_iff_eq, Bool.not_eq_true, Bool.not_eq_false] at hc29
        refine WC.region ?_
        refine WL.val (.move (.of rfl)) rfl ?_
        refine WL.val (.move (.of rfl)) rfl ?_
        obtain ⟨r', hr, hr2⟩ := inv_one hR (by omega) (by omega)
        subst hr
        refine WL.call Try.func31 rfl (evs_cons (.of rfl) (evs_cons (.of rfl) (evs_cons (.of rfl) (evs_cons (.of rfl) (evs_cons (.of rfl) evs_nil))))) rfl (ends_u hE pa c1 1 0 false 1 0 (fun x => by simp [takes, fitsP] <;> exact BEq.comm) (by decide) B w J As hS hA (by omega)) ?_
        clear hS
        rintro _ w ⟨J2, q, R2, hJ2, rfl, hA2, hE2, hS⟩
        refine WL.val (.assign (.of rfl)) rfl ?_
        refine WL.nil ?_
        refine WC.region ?_
        refine WL.val (.move (.of rfl)) rfl ?_
        refine WL.val (.add (.of rfl) (.of rfl) ⟨by omega, by omega⟩) rfl ?_
        refine WL.val (.assign (.of rfl)) rfl ?_
        refine WL.nil ?_
        refine ⟨(k + 1, r', _, R2, q, s.length + 1, J2), ⟨rfl, rfl, rfl, rfl, trivial⟩, ⟨by omega, hr2, hfl, fun u => (hsem u).trans (cat_assoc _ _ _ u).symm, hE2, hA2, hJ.trans hJ2, hS⟩, by dsimp only; omega⟩
      ·
        have hc29 := hb29; try simp only [decide_eq_true_eq, decide_eq_false_iff_not, beq_iff_eq, beq_eq_false_iff_ne, bne_iff_ne, Bool.not_eq_true', Bool.not_eq_false', Bool.or_eq_true, Bool.and_eq_true, Bool.or_eq_false_iff, Bool.and_eq_false_iff, ne_eq, Int.not_lt, Int.not_le, bne_eq_false_iff_eq, Bool.not_eq_true, Bool.not_eq_false] at hc29
        refine WC.seq ?_
        refine WC.region ?_
        refine WL.val (.eql (.of rfl) (.of rfl)) rfl ?_
        refine WL.val (.assign (.of rfl)) rfl ?_
        refine WL.nil ?_
        refine WC.cond rfl (fun hb34 => ?_) (fun hb34 => ?_)
        ·
          have hc34 := hb34; try simp only [decide_eq_true_eq, decide_eq_false_iff_not, beq_iff_eq, beq_eq_false_iff_ne, bne_iff_ne, Bool.not_eq_true', Bool.not_eq_false', Bool.or_eq_true, Bool.and_eq_true, Bool.or_eq_false_iff, Bool.and_eq_false_iff, ne_eq, Int.not_lt, Int.not_le, bne_eq_false_iff_eq, Bool.not_eq_true, Bool.not_eq_false] at hc34
          refine WC.seq ?_
          refine WC.region ?_
          refine WL.val (.move (.of rfl)) rfl ?_
          refine WL.val (.add (.of rfl) (.of rfl) ⟨by omega, by omega⟩) rfl ?_
          refine WL.val (.move (.of rfl)) rfl ?_
          refine WL.val (.len (.of rfl) Try.underlying9) rfl ?_
          refine WL.val (.lss (.of rfl) (.of rfl)) rfl ?_
          refine WL.val (.move (.of rfl)) rfl ?_
          refine WL.gval rfl rfl (fun hg1 => (.move (.of rfl))) rfl ?_
          refine WL.gval rfl rfl (fun hg1 => (.move (.of rfl))) rfl ?_
          refine WL.gval rfl rfl (fun hg1 => (.add (.gd hg1 rfl) (.of rfl) ⟨by omega, by omega⟩)) rfl ?_
          refine WL.gval rfl rfl (fun hg1 => (.index (.gd hg1 rfl) (.gd hg1 rfl) (by (try simp only [decide_eq_true_eq, decide_eq_false_iff_not, beq_iff_eq, beq_eq_false_iff_ne, bne_iff_ne, Bool.not_eq_true', Bool.not_eq_false', Bool.or_eq_true, Bool.and_eq_true, Bool.or_eq_false_iff, Bool.and_eq_false_iff, ne_eq, Int.not_lt, Int.not_le, bne_eq_false_iff_eq, Bool.not_eq_true, Bool.not_eq_false] at hg1); omega) (by (try simp only [decide_eq_true_eq, decide_eq_false_iff_not, beq_iff_eq, beq_eq_false_iff_ne, bne_iff_ne, Bool.not_eq_true', Bool.not_eq_false', Bool.or_eq_true, Bool.and_eq_true, Bool.or_eq_false_iff, Bool.and_eq_false_iff, ne_eq, Int.not_lt, Int.not_le, bne_eq_false_iff_eq, Bool.not_eq_true, Bool.not_eq_false] at hg1); omega) Try.underlying9)) rfl ?_
          refine WL.gval rfl rfl (fun hg1 => (.eql (.gd hg1 rfl) (.of rfl))) rfl ?_
          refine WL.val (.pand (.of rfl) (.of rfl) (.of rfl)) rfl ?_
          refine WL.nil ?_
          refine WC.cond rfl (fun hb47 => ?_) (fun hb47 => ?_)
          ·
            have hc47 := hb47; try simp only [decide_eq_true_eq, decide_eq_false_iff_not, beq_iff_eq, beq_eq_false_iff_ne, bne_iff_ne, Bool.not_eq_true', Bool.not_eq_false', Bool.or_eq_true, Bool.and_eq_true, Bool.or_eq_false_iff, Bool.and_eq_false_iff, ne_eq, Int.not_lt, Int.not_le, bne_eq_false_iff_eq, Bool.not_eq_true, Bool.not_eq_false] at hc47
            refine WC.seq ?_
            refine WC.region ?_
            refine WL.val (.move (.of rfl)) rfl ?_
            refine WL.val (.add (.of rfl) (.of rfl) ⟨by omega, by omega⟩) rfl ?_
            refine WL.val (.assign (.of rfl)) rfl ?_
            refine WL.nil ?_
            refine WC.region ?_
            refine WL.val (.move (.of rfl)) rfl ?_
            refine WL.val (.move (.of rfl)) rfl ?_
            obtain ⟨r', hr, hr2⟩ := inv_all hR (by omega) (by omega) (by omega)
            subst hr
            refine WL.call Try.func31 rfl (evs_cons (.of rfl) (evs_cons (.of rfl) (evs_cons (.of rfl) (evs_cons (.of rfl) (evs_cons (.of rfl) evs_nil))))) rfl (ends_u hE pa c1 2 0 true 2 0 (fun x => by simp [takes, fitsP] <;> exact BEq.comm) (by decide) B w J As hS hA (by omega)) ?_
            clear hS
            rintro _ w ⟨J2, q, R2, hJ2, rfl, hA2, hE2, hS⟩
            refine WL.val (.assign (.of rfl)) rfl ?_
            refine WL.nil ?_
            refine WC.region ?_
            refine WL.val (.move (.of rfl)) rfl ?_
            refine WL.val (.add (.of rfl) (.of rfl) ⟨by omega, by omega⟩) rfl ?_
            refine WL.val (.assign (.of rfl)) rfl ?_
            refine WL.nil ?_
            refine ⟨(k + 2, r', _, R2, q, s.length + 1, J2), ⟨rfl, rfl, rfl, rfl, trivial⟩, ⟨by omega, hr2, hfl, fun u => (hsem u).trans (cat_assoc _ _ _ u).symm, hE2, hA2, hJ.trans hJ2, hS⟩, by dsimp only; omega⟩
          ·
            have hc47 := hb47; try simp only [decide_eq_true_eq, decide_eq_false_iff_not, beq_iff_eq, beq_eq_false_iff_ne, bne_iff_ne, Bool.not_eq_true', Bool.not_eq_false', Bool.or_eq_true, Bool.and_eq_true, Bool.or_eq_false_iff, Bool.and_eq_false_iff, ne_eq, Int.not_lt, Int.not_le, bne_eq_false_iff_eq, Bool.not_eq_true, Bool.not_eq_false] at hc47
            refine WC.region ?_
            refine WL.val (.move (.of rfl)) rfl ?_
            refine WL.val (.move (.of rfl)) rfl ?_
            obtain ⟨r', hr, hr2⟩ := inv_few hR (by omega) (by omega) (by omega)
            subst hr
            refine WL.call Try.func31 rfl (evs_cons (.of rfl) (evs_cons (.of rfl) (evs_cons (.of rfl) (evs_cons (.of rfl) (evs_cons (.of rfl) evs_nil))))) rfl (ends_u hE pa c1 1 0 true 3 0 (fun x => by simp [takes, fitsP] <;> exact BEq.comm) (by decide) B w J As hS hA (by omega)) ?_
            clear hS
            rintro _ w ⟨J2, q, R2, hJ2, rfl, hA2, hE2, hS⟩
            refine WL.val (.assign (.of rfl)) rfl ?_
            refine WL.nil ?_
            refine WC.region ?_
            refine WL.val (.move (.of rfl)) rfl ?_
            refine WL.val (.add (.of rfl) (.of rfl) ⟨by omega, by omega⟩) rfl ?_
            refine WL.val (.assign (.of rfl)) rfl ?_
            refine WL.nil ?_
            refine ⟨(k + 1, r', _, R2, q, s.length + 1, J2), ⟨rfl, rfl, rfl, rfl, trivial⟩, ⟨by omega, hr2, hfl, fun u => (hsem u).trans (cat_assoc _ _ _ u).symm, hE2, hA2, hJ.trans hJ2, hS⟩, by dsimp only; omega⟩
        ·
          have hc34 := hb34; try simp only [decide_eq_true_eq, decide_eq_false_iff_not, beq_iff_eq, beq_eq_false_iff_ne, bne_iff_ne, Bool.not_eq_true', Bool.not_eq_false', Bool.or_eq_true, Bool.and_eq_true, Bool.or_eq_false_iff, Bool.and_eq_false_iff, ne_eq, Int.not_lt, Int.not_le, bne_eq_false_iff_eq, Bool.not_eq_true, Bool.not_eq_false] at hc34
          refine WC.seq ?_
          refine WC.region ?_
          refine WL.val (.eql (.of rfl) (.of rfl)) rfl ?_
          refine WL.val (.assign (.of rfl)) rfl ?_
          refine WL.nil ?_
          refine WC.cond rfl (fun hb56 => ?_) (fun hb56 => ?_)
          ·
            have hc56 := hb56; try simp only [decide_eq_true_eq, decide_eq_false_iff_not, beq_iff_eq, beq_eq_false_iff_ne, bne_iff_ne, Bool.not_eq_true', Bool.not_eq_false', Bool.or_eq_true, Bool.and_eq_true, Bool.or_eq_false_iff, Bool.and_eq_false_iff, ne_eq, Int.not_lt, Int.not_le, bne_eq_false_iff_eq, Bool.not_eq_true, Bool.not_eq_false] at hc56
            refine WC.seq ?_
            have hesc := (inv_esc hR (by omega) (by omega)).1
            refine WC.region ?_
            refine WL.val (.move (.of rfl)) rfl ?_
            refine WL.val (.add (.of rfl) (.of rfl) ⟨by omega, by omega⟩) rfl ?_
            refine WL.val (.assign (.of rfl)) rfl ?_
            refine WL.nil ?_
            refine WC.region ?_
            refine WL.val (.move (.of rfl)) rfl ?_
            refine WL.val (.move (.of rfl)) rfl ?_
            refine WL.val (.move (.of rfl)) rfl ?_
            refine WL.val (.move (.of rfl)) rfl ?_
            refine WL.val (.index (.of rfl) (.of rfl) (by omega) (by omega) Try.underlying9) rfl ?_
            obtain ⟨_, r', hr, hr2⟩ := inv_esc hR (by omega) (by omega)
            subst hr
            refine WL.call Try.func31 rfl (evs_cons (.of rfl) (evs_cons (.of rfl) (evs_cons (.of rfl) (evs_cons (.of rfl) (evs_cons (.of rfl) evs_nil))))) rfl (ends_u hE pa c1 0 (at_ l ((k : Int) + 1)) false 0 ((at_ l ((k : Int) + 1)).toNat : Int) (fun x => by simp [takes, fitsP] <;> exact BEq.comm) (by decide) B w J As hS hA (by omega)) ?_
            clear hS
            rintro _ w ⟨J2, q, R2, hJ2, rfl, hA2, hE2, hS⟩
            refine WL.val (.assign (.of rfl)) rfl ?_
            refine WL.nil ?_
            refine WC.region ?_
            refine WL.val (.move (.of rfl)) rfl ?_
            refine WL.val (.add (.of rfl) (.of rfl) ⟨by omega, by omega⟩) rfl ?_
            refine WL.val (.assign (.of rfl)) rfl ?_
            refine WL.nil ?_
            refine ⟨(k + 2, r', _, R2, q, s.length + 1, J2), ⟨rfl, rfl, rfl, rfl, trivial⟩, ⟨by omega, hr2, hfl, fun u => (hsem u).trans (cat_assoc _ _ _ u).symm, hE2, hA2, hJ.trans hJ2, hS⟩, by dsimp only; omega⟩
          ·
            have hc56 := hb56; try simp only [decide_eq_true_eq, decide_eq_false_iff_not, beq_iff_eq, beq_eq_false_iff_ne, bne_iff_ne, Bool.not_eq_true', Bool.not_eq_false', Bool.or_eq_true, Bool.and_eq_true, Bool.or_eq_false_iff, Bool.and_eq_false_iff, ne_eq, Int.not_lt, Int.not_le, bne_eq_false_iff_eq, Bool.not_eq_true, Bool.not_eq_false] at hc56
            refine WC.seq ?_
            refine WC.region ?_
            refine WL.val (.eql (.of rfl) (.of rfl)) rfl ?_
            refine WL.val (.assign (.of rfl)) rfl ?_
            refine WL.nil ?_
            refine WC.cond rfl (fun hb66 => ?_) (fun hb66 => ?_)
            ·
              have hc66 := hb66; try simp only [decide_eq_true_eq, decide_eq_false_iff_not, beq_iff_eq, beq_eq_false_iff_ne, bne_iff_ne, Bool.not_eq_true', Bool.not_eq_false', Bool.or_eq_true, Bool.and_eq_true, Bool.or_eq_false_iff, Bool.and_eq_false_iff, ne_eq, Int.not_lt, Int.not_le, bne_eq_false_iff_eq, Bool.not_eq_true, Bool.not_eq_false] at hc66
              refine WC.seq ?_
              refine WC.region ?_
              refine WL.val (.move (.of rfl)) rfl ?_
              refine WL.val (.move (.of rfl)) rfl ?_
              obtain ⟨t1, t2, b, r', hd0, hr, hr1, hr2, hd1, hk2, hk3⟩ := inv_grp hR (by omega) (by omega)
              subst hr
              obtain ⟨ps, halts, hbars⟩ := bars_grp hr1 t2 (k : Int)
              rw [← hd0] at hbars
              refine WL.call Try.func32 rfl (evs_cons (.of rfl) (evs_cons (.of rfl) evs_nil)) rfl (bars_any l k (by omega) (by omega) B w J As hS) ?_
              clear hS
              rintro _ w ⟨J2, la, lc, hJ2, rfl, hla, hS⟩
              generalize hallE0 : barsGo (l.drop k) k 0 [] = all at hla hbars ⊢
              have hallE := hbars
              obtain ⟨lp, rfl, hlA⟩ := hla.2 (by rw [hbars]; simp)
              have hps := alts_len halts
              have hal : all.length = ps.length + 1 := by rw [hallE]; simp
              have hlast : all.getD ((all.length : Int) - 1).toNat 0 = (k : Int) + 1 + t1.length := by rw [hallE]; exact last_get
              have ht1 : t1.length ≤ l.length := by omega
              refine WL.val (.assign (.of rfl)) rfl ?_
              refine WL.nil ?_
              refine WC.seq ?_
              refine WC.region ?_
              refine WL.val (.move (.of rfl)) rfl ?_
              refine WL.val (.len (.of rfl) Try.underlying9) rfl ?_
              refine WL.val (.add (.of rfl) (.of rfl) ⟨by omega, by omega⟩) rfl ?_
              refine WL.make (l := s.length + 1) hS (.of rfl) (.of rfl) Try.underlying49 Try.type4 rfl (by simp [Try.t4]; omega) (by omega) rfl rfl rfl ?_
              clear hS; intro b74 w hS
              refine WL.val (.assign (.of rfl)) rfl ?_
              refine WL.nil ?_
              refine WC.seq ?_
              refine WC.region ?_
              refine WL.val (.move (.of rfl)) rfl ?_
              refine WL.val (.add (.of rfl) (.of rfl) ⟨by omega, by omega⟩) rfl ?_
              refine WL.val (.assign (.of rfl)) rfl ?_
              refine WL.nil ?_
              refine WC.seq ?_
              refine WC.seq ?_
              refine WC.region ?_
              refine WL.val (.assign (.of rfl)) rfl ?_
              refine WL.nil ?_
              refine WC.block ?_
              refine WC.loop (σ := Nat × Nat × Lang × List Bool × Im) (fun ⟨m, at0, Dg, S1, J4⟩ => [(0, S l), (1, S s), (2, .slice (some pa) (s.length + 1) c1), (8, .slice (some lp) all.length lc), (9, .slice (some (ad b74 0)) (s.length + 1) (s.length + 1)), (10, I64 (at0 : Nat)), (11, I64 (m : Nat))]) (fun ⟨m, at0, Dg, S1, J4⟩ w => m ≤ all.length ∧ EndsAt s fr Dg S1 ∧ AltInv l t2 b all ((k : Int) + 1 + t1.length) m at0 Dg ∧ Le J2 J4 ∧ Sat B w J4 (blk b74 ((S1).map Value.bool ++ []) 4 :: As)) (fun ⟨m, at0, Dg, S1, J4⟩ => all.length - m) (0, k + 1, (fun _ => False), List.replicate (s.length + 1) false, J2) ⟨rfl, rfl, rfl, rfl, rfl, rfl, rfl, trivial⟩ ⟨Nat.zero_le _, EndsAt.none s fr, ⟨fun _ => ⟨t1, b, ps, by rw [hallE]; rfl, by simpa using halts, hd1, by simp, fun u => by simp⟩, fun h => by rw [hallE] at h; simp at h⟩, Le.refl _, by rw [List.map_replicate, List.append_nil]; exact hS⟩ ?_
              rintro ⟨m, at0, Dg, S1, J4⟩ w ⟨hm, hES, hAlt, hJ4, hS⟩
              change WC _ _ _ _ [(0, S l), (1, S s), (2, .slice (some pa) (s.length + 1) c1), (8, .slice (some lp) all.length lc), (9, .slice (some (ad b74 0)) (s.length + 1) (s.length + 1)), (10, I64 (at0 : Nat)), (11, I64 (m : Nat))] w
              refine WC.seq ?_
              refine WC.seq ?_
              refine WC.region ?_
              refine WL.val (.move (.of rfl)) rfl ?_
              refine WL.val (.move (.of rfl)) rfl ?_
              refine WL.val (.lenSlice (.of rfl) Try.underlying40) rfl ?_
              refine WL.val (.lss (.of rfl) (.of rfl)) rfl ?_
              refine WL.nil ?_
              refine WC.cond rfl (fun hb80 => ?_) (fun hb80 => ?_)
              ·
                have hc80 := hb80; try simp only [decide_eq_true_eq, decide_eq_false_iff_not, beq_iff_eq, beq_eq_false_iff_ne, bne_iff_ne, Bool.not_eq_true', Bool.not_eq_false', Bool.or_eq_true, Bool.and_eq_true, Bool.or_eq_false_iff, Bool.and_eq_false_iff, ne_eq, Int.not_lt, Int.not_le, bne_eq_false_iff_eq, Bool.not_eq_true, Bool.not_eq_false] at hc80
                refine WC.skip ?_
                refine WC.seq ?_
                refine WC.block ?_
                refine WC.seq ?_
                have hA4 := hA.mono (hJ2.trans hJ4)
                obtain ⟨q, b1, hq1, hq2, hq3, hq4, hb1, hb1f, hAlt2⟩ := alt_step hAlt (by omega)
                have hlA4 := hlA.mono hJ4
                have hqd : all.getD ((m : Int)).toNat 0 = (q : Int) := by rw [Int.toNat_natCast, List.getD_eq_getElem?_getD, hq1]; rfl
                refine WC.region ?_
                refine WL.val (.move (.of rfl)) rfl ?_
                refine WL.val (.move (.of rfl)) rfl ?_
                refine WL.val (.move (.of rfl)) rfl ?_
                refine WL.val (.move (.of rfl)) rfl ?_
                first | refine WL.val (.indexAddr (.of rfl) (.of rfl) (by omega) (by omega) Try.underlying40 Try.sizeOf3) rfl ?_ | refine WL.val (.indexAddrI (.of rfl) (.of rfl) (by omega) (by omega) Try.underlying40 Try.sizeOf3) rfl ?_
                refine WL.val (.ldEI I64 all 0 (.of rfl) hS hlA4 rfl Try.isAgg3 (by omega) (by omega)) rfl ?_
                rw [hqd]
                refine WL.val (.sub3 (.of rfl) (.of rfl) (.of rfl) (by omega) (by omega) (by omega) Try.underlying9) rfl ?_
                rw [Int.toNat_natCast, Int.toNat_natCast]
                refine WL.val (.move (.of rfl)) rfl ?_
                refine WL.val (.move (.of rfl)) rfl ?_
                refine WL.call Try.func24 rfl (evs_cons (.of rfl) (evs_cons (.of rfl) (evs_cons (.of rfl) evs_nil))) rfl (ih ((l.drop at0).take (q - at0)) b1 (by simp; omega) hb1 hb1f (by simp; omega) fr pa c1 B w J4 _ hS hA4 hE.1) ?_
                clear hS
                rintro _ w ⟨J6, qa, qc, R6, hJ6, rfl, hA6, hE6, hS⟩
                refine WL.val (.assign (.of rfl)) rfl ?_
                refine WL.nil ?_
                refine WC.seq ?_
                refine WC.seq ?_
                refine WC.region ?_
                refine WL.val (.assign (.of rfl)) rfl ?_
                refine WL.nil ?_
                refine WC.block ?_
                refine WC.loop (σ := Nat) (fun j => [(0, S l), (1, S s), (2, .slice (some pa) (s.length + 1) c1), (8, .slice (some lp) all.length lc), (9, .slice (some (ad b74 0)) (s.length + 1) (s.length + 1)), (11, I64 (m : Nat)), (12, .slice (some qa) (s.length + 1) qc), (13, I64 (j : Nat))]) (fun j w => j ≤ s.length + 1 ∧ Sat B w J6 (blk b74 ((iter (orAt R6) S1 j).map Value.bool ++ []) 4 :: As)) (fun j => s.length + 1 - j) 0 ⟨rfl, rfl, rfl, rfl, rfl, rfl, rfl, rfl, trivial⟩ ⟨Nat.zero_le _, hS⟩ ?_
                rintro j w ⟨hj, hS⟩
                change WC _ _ _ _ [(0, S l), (1, S s), (2, .slice (some pa) (s.length + 1) c1), (8, .slice (some lp) all.length lc), (9, .slice (some (ad b74 0)) (s.length + 1) (s.length + 1)), (11, I64 (m : Nat)), (12, .slice (some qa) (s.length + 1) qc), (13, I64 (j : Nat))] w
                have ho := (orAt_iter R6 S1 j).1
                have hS1l := hES.1
                have hR6l := hE6.1
                obtain ⟨oj, hoj⟩ : ∃ oj, oj = iter (orAt R6) S1 j := ⟨_, rfl⟩
                rw [← hoj] at hS ho
                refine WC.seq ?_
                refine WC.seq ?_
                refine WC.region ?_
                refine WL.val (.move (.of rfl)) rfl ?_
                refine WL.val (.move (.of rfl)) rfl ?_
                refine WL.val (.len (.of rfl) Try.underlying9) rfl ?_
                refine WL.val (.leq (.of rfl) (.of rfl)) rfl ?_
                refine WL.nil ?_
                refine WC.cond rfl (fun hb96 => ?_) (fun hb96 => ?_)
                ·
                  have hc96 := hb96; try simp only [decide_eq_true_eq, decide_eq_false_iff_not, beq_iff_eq, beq_eq_false_iff_ne, bne_iff_ne, Bool.not_eq_true', Bool.not_eq_false', Bool.or_eq_true, Bool.and_eq_true, Bool.or_eq_false_iff, Bool.and_eq_false_iff, ne_eq, Int.not_lt, Int.not_le, bne_eq_false_iff_eq, Bool.not_eq_true, Bool.not_eq_false] at hc96
                  refine WC.skip ?_
                  refine WC.seq ?_
                  refine WC.block ?_
                  refine WC.region ?_
                  refine WL.val (.move (.of rfl)) rfl ?_
                  refine WL.val (.move (.of rfl)) rfl ?_
                  refine WL.val (.move (.of rfl)) rfl ?_
                  refine WL.val (.move (.of rfl)) rfl ?_
                  first | refine WL.val (.indexAddr (.of rfl) (.of rfl) (by omega) (by omega) Try.underlying49 Try.sizeOf4) rfl ?_ | refine WL.val (.indexAddrI (.of rfl) (.of rfl) (by omega) (by omega) Try.underlying49 Try.sizeOf4) rfl ?_
                  refine WL.val (.ldE .bool oj false [] (.of rfl) hS (k := 0) rfl rfl Try.isAgg4 (by omega) (by omega)) rfl ?_
                  refine WL.val (.move (.of rfl)) rfl ?_
                  refine WL.gval rfl rfl (fun hg1 => (.move (.of rfl))) rfl ?_
                  refine WL.gval rfl rfl (fun hg1 => (.move (.of rfl))) rfl ?_
                  refine WL.gval rfl rfl (fun hg1 => (by first | exact .indexAddr (.gd hg1 rfl) (.gd hg1 rfl) (by (try simp only [decide_eq_true_eq, decide_eq_false_iff_not, beq_iff_eq, beq_eq_false_iff_ne, bne_iff_ne, Bool.not_eq_true', Bool.not_eq_false', Bool.or_eq_true, Bool.and_eq_true, Bool.or_eq_false_iff, Bool.and_eq_false_iff, ne_eq, Int.not_lt, Int.not_le, bne_eq_false_iff_eq, Bool.not_eq_true, Bool.not_eq_false] at hg1); omega) (by (try simp only [decide_eq_true_eq, decide_eq_false_iff_not, beq_iff_eq, beq_eq_false_iff_ne, bne_iff_ne, Bool.not_eq_true', Bool.not_eq_false', Bool.or_eq_true, Bool.and_eq_true, Bool.or_eq_false_iff, Bool.and_eq_false_iff, ne_eq, Int.not_lt, Int.not_le, bne_eq_false_iff_eq, Bool.not_eq_true, Bool.not_eq_false] at hg1); omega) Try.underlying49 Try.sizeOf4 | exact .indexAddrI (.gd hg1 rfl) (.gd hg1 rfl) (by (try simp only [decide_eq_true_eq, decide_eq_false_iff_not, beq_iff_eq, beq_eq_false_iff_ne, bne_iff_ne, Bool.not_eq_true', Bool.not_eq_false', Bool.or_eq_true, Bool.and_eq_true, Bool.or_eq_false_iff, Bool.and_eq_false_iff, ne_eq, Int.not_lt, Int.not_le, bne_eq_false_iff_eq, Bool.not_eq_true, Bool.not_eq_false] at hg1); omega) (by (try simp only [decide_eq_true_eq, decide_eq_false_iff_not, beq_iff_eq, beq_eq_false_iff_ne, bne_iff_ne, Bool.not_eq_true', Bool.not_eq_false', Bool.or_eq_true, Bool.and_eq_true, Bool.or_eq_false_iff, Bool.and_eq_false_iff, ne_eq, Int.not_lt, Int.not_le, bne_eq_false_iff_eq, Bool.not_eq_true, Bool.not_eq_false] at hg1); omega) Try.underlying49 Try.sizeOf4)) rfl ?_
                  refine WL.gval rfl rfl (fun hg1 => .ldEI .bool R6 false (.gd hg1 rfl) hS hA6 rfl Try.isAgg4 (by omega) (by omega)) rfl ?_
                  refine WL.val (.por (.of rfl) (.of rfl) (.of rfl)) rfl ?_
                  first | refine WL.val (.indexAddr (.of rfl) (.of rfl) (by omega) (by omega) Try.underlying49 Try.sizeOf4) rfl ?_ | refine WL.val (.indexAddrI (.of rfl) (.of rfl) (by omega) (by omega) Try.underlying49 Try.sizeOf4) rfl ?_
                  refine WL.stE .bool oj [] (u := oj.getD ((j : Int)).toNat false || R6.getD ((j : Int)).toNat false) hS (k := 0) rfl (.of rfl) (.of rfl) rfl rfl Try.sizeOf4 (by omega) (by omega) ?_
                  clear hS; intro w hS; dsimp only [List.set] at hS
                  refine WL.nil ?_
                  refine WC.region ?_
                  refine WL.val (.move (.of rfl)) rfl ?_
                  refine WL.val (.add (.of rfl) (.of rfl) ⟨by omega, by omega⟩) rfl ?_
                  refine WL.val (.assign (.of rfl)) rfl ?_
                  refine WL.nil ?_
                  refine ⟨j + 1, ⟨rfl, rfl, rfl, rfl, rfl, rfl, rfl, rfl, trivial⟩, ⟨by omega, ?_⟩, by omega⟩
                  rw [iter, ← hoj]; unfold orAt; simp only [Int.toNat_natCast] at hS; exact hS
                ·
                  have hc96 := hb96; try simp only [decide_eq_true_eq, decide_eq_false_iff_not, beq_iff_eq, beq_eq_false_iff_ne, bne_iff_ne, Bool.not_eq_true', Bool.not_eq_false', Bool.or_eq_true, Bool.and_eq_true, Bool.or_eq_false_iff, Bool.and_eq_false_iff, ne_eq, Int.not_lt, Int.not_le, bne_eq_false_iff_eq, Bool.not_eq_true, Bool.not_eq_false] at hc96
                  refine WC.exit ?_
                  have hlA6 := hlA4.mono hJ6
                  refine WC.region ?_
                  refine WL.val (.move (.of rfl)) rfl ?_
                  refine WL.val (.move (.of rfl)) rfl ?_
                  first | refine WL.val (.indexAddr (.of rfl) (.of rfl) (by omega) (by omega) Try.underlying40 Try.sizeOf3) rfl ?_ | refine WL.val (.indexAddrI (.of rfl) (.of rfl) (by omega) (by omega) Try.underlying40 Try.sizeOf3) rfl ?_
                  refine WL.val (.ldEI I64 all 0 (.of rfl) hS hlA6 rfl Try.isAgg3 (by omega) (by omega)) rfl ?_
                  rw [hqd]
                  refine WL.val (.add (.of rfl) (.of rfl) ⟨by omega, by omega⟩) rfl ?_
                  refine WL.val (.assign (.of rfl)) rfl ?_
                  refine WL.nil ?_
                  refine WC.region ?_
                  refine WL.val (.move (.of rfl)) rfl ?_
                  refine WL.val (.add (.of rfl) (.of rfl) ⟨by omega, by omega⟩) rfl ?_
                  refine WL.val (.assign (.of rfl)) rfl ?_
                  refine WL.nil ?_
                  obtain rfl : j = s.length + 1 := by omega
                  refine ⟨(m + 1, q + 1, _, iter (orAt R6) S1 (s.length + 1), J6), ⟨rfl, rfl, rfl, rfl, rfl, rfl, rfl, trivial⟩, ⟨by omega, hES.or hE6, hAlt2, hJ4.trans hJ6, by rw [hoj] at hS; exact hS⟩, by dsimp only; omega⟩
              ·
                have hc80 := hb80; try simp only [decide_eq_true_eq, decide_eq_false_iff_not, beq_iff_eq, beq_eq_false_iff_ne, bne_iff_ne, Bool.not_eq_true', Bool.not_eq_false', Bool.or_eq_true, Bool.and_eq_true, Bool.or_eq_false_iff, Bool.and_eq_false_iff, ne_eq, Int.not_lt, Int.not_le, bne_eq_false_iff_eq, Bool.not_eq_true, Bool.not_eq_false] at hc80
                refine WC.exit ?_
                refine WC.seq ?_
                refine WC.region ?_
                refine WL.val (.move (.of rfl)) rfl ?_
                refine WL.val (.assign (.of rfl)) rfl ?_
                refine WL.nil ?_
                have hlA7 := hlA.mono hJ4
                have hm9 : m = all.length := by omega
                refine WC.region ?_
                refine WL.val (.move (.of rfl)) rfl ?_
                refine WL.val (.move (.of rfl)) rfl ?_
                refine WL.val (.lenSlice (.of rfl) Try.underlying40) rfl ?_
                refine WL.val (.sub (.of rfl) (.of rfl) ⟨by omega, by omega⟩) rfl ?_
                first | refine WL.val (.indexAddr (.of rfl) (.of rfl) (by omega) (by omega) Try.underlying40 Try.sizeOf3) rfl ?_ | refine WL.val (.indexAddrI (.of rfl) (.of rfl) (by omega) (by omega) Try.underlying40 Try.sizeOf3) rfl ?_
                refine WL.val (.ldEI I64 all 0 (.of rfl) hS hlA7 rfl Try.isAgg3 (by omega) (by omega)) rfl ?_
                rw [hlast]
                refine WL.val (.assign (.of rfl)) rfl ?_
                refine WL.nil ?_
                refine WC.region ?_
                refine WL.val (.move (.of rfl)) rfl ?_
                refine WL.val (.add (.of rfl) (.of rfl) ⟨by omega, by omega⟩) rfl ?_
                refine WL.val (.assign (.of rfl)) rfl ?_
                refine WL.nil ?_
                obtain rfl : m = all.length := by omega
                obtain ⟨J5, hJ5, hb5, hS⟩ := hS.freeze (k := 0) rfl; try dsimp only [List.eraseIdx] at hS
                refine ⟨(k + 1 + t1.length + 1, r', _, S1, ad b74 0, s.length + 1, J5), ⟨rfl, rfl, rfl, rfl, trivial⟩, ⟨by omega, by rw [hk2]; exact hr2, hfl, fun u => (hsem u).trans (cat_assoc _ _ _ u).symm, hE.cat (hES.congr fun u => (hAlt.2 rfl u).symm), ⟨rfl, _, _, _, hb5, fun j v hj => by simpa using hj⟩, ((hJ.trans hJ2).trans hJ4).trans hJ5, hS⟩, by dsimp only; omega⟩
            ·
              have hc66 := hb66; try simp only [decide_eq_true_eq, decide_eq_false_iff_not, beq_iff_eq, beq_eq_false_iff_ne, bne_iff_ne, Bool.not_eq_true', Bool.not_eq_false', Bool.or_eq_true, Bool.and_eq_true, Bool.or_eq_false_iff, Bool.and_eq_false_iff, ne_eq, Int.not_lt, Int.not_le, bne_eq_false_iff_eq, Bool.not_eq_true, Bool.not_eq_false] at hc66
              refine WC.region ?_
              refine WL.val (.move (.of rfl)) rfl ?_
              refine WL.val (.move (.of rfl)) rfl ?_
              refine WL.val (.move (.of rfl)) rfl ?_
              refine WL.val (.move (.of rfl)) rfl ?_
              refine WL.val (.index (.of rfl) (.of rfl) (by omega) (by omega) Try.underlying9) rfl ?_
              obtain ⟨r', hr, hr2⟩ := inv_byte hR hfl (by omega) (by omega) (by omega) (by omega) (by omega)
              subst hr
              refine WL.call Try.func31 rfl (evs_cons (.of rfl) (evs_cons (.of rfl) (evs_cons (.of rfl) (evs_cons (.of rfl) (evs_cons (.of rfl) evs_nil))))) rfl (ends_u hE pa c1 0 (at_ l (k : Int)) false 0 ((at_ l (k : Int)).toNat : Int) (fun x => by simp [takes, fitsP] <;> exact BEq.comm) (by decide) B w J As hS hA (by omega)) ?_
              clear hS
              rintro _ w ⟨J2, q, R2, hJ2, rfl, hA2, hE2, hS⟩
              refine WL.val (.assign (.of rfl)) rfl ?_
              refine WL.nil ?_
              refine WC.region ?_
              refine WL.val (.move (.of rfl)) rfl ?_
              refine WL.val (.add (.of rfl) (.of rfl) ⟨by omega, by omega⟩) rfl ?_
              refine WL.val (.assign (.of rfl)) rfl ?_
              refine WL.nil ?_
              refine ⟨(k + 1, r', _, R2, q, s.length + 1, J2), ⟨rfl, rfl, rfl, rfl, trivial⟩, ⟨by omega, hr2, hfl, fun u => (hsem u).trans (cat_assoc _ _ _ u).symm, hE2, hA2, hJ.trans hJ2, hS⟩, by dsimp only; omega⟩
    ·
      have hc17 := hb17; try simp only [decide_eq_true_eq, decide_eq_false_iff_not, beq_iff_eq, beq_eq_false_iff_ne, bne_iff_ne, Bool.not_eq_true', Bool.not_eq_false', Bool.or_eq_true, Bool.and_eq_true, Bool.or_eq_false_iff, Bool.and_eq_false_iff, ne_eq, Int.not_lt, Int.not_le, bne_eq_false_iff_eq, Bool.not_eq_true, Bool.not_eq_false] at hc17
      refine WC.exit ?_
      refine WC.seq ?_
      refine WC.region ?_
      refine WL.val (.move (.of rfl)) rfl ?_
      refine WL.val (.assign (.of rfl)) rfl ?_
      refine WL.nil ?_
      refine WC.ret ?_
      refine ret1 Try.results24 rfl ?_
      refine ⟨_, rfl, J, pa, c1, fr, hJ, rfl, hA, hE.congr fun u => ?_, hS⟩
      rw [List.drop_of_length_le (by omega)] at hR
      obtain rfl := rep_nil hR
      exact ((hsem u).trans (cat_end _ u)).symm
theorem RefMatch_any {l : List UInt8} {p : Pt} (hr : Rep l p) (hf : p.flat) (s : List UInt8) (hl : l.length ≤ 1000) (hs : s.length ≤ 1000) (B w : World) (I : Im) (As : List Assn) (hS : Sat B w I As) :
    Calls Try.prog 16 [S l, S s].toArray w (Ret fun v w' => ∃ b, v = .bool b ∧ (b = true ↔ (sem p).1 s) ∧ ∃ J, Le I J ∧ Sat B w' J As) := by
  refine calls Try.func16 rfl Try.ntmps16 rfl ?_
  refine WC.seq ?_
  refine WC.region ?_
  refine WL.val (.assign (.of rfl)) rfl ?_
  refine WL.nil ?_
  refine WC.seq ?_
  refine WC.region ?_
  refine WL.val (.move (.of rfl)) rfl ?_
  refine WL.val (.len (.of rfl) Try.underlying9) rfl ?_
  refine WL.val (.add (.of rfl) (.of rfl) ⟨by omega, by omega⟩) rfl ?_
  refine WL.make (l := s.length + 1) hS (.of rfl) (.of rfl) Try.underlying49 Try.type4 rfl (by simp [Try.t4]; omega) (by omega) rfl rfl rfl ?_
  clear hS; intro b9 w hS
  refine WL.val (.assign (.of rfl)) rfl ?_
  refine WL.nil ?_
  refine WC.seq ?_
  refine WC.region ?_
  refine WL.val (.move (.of rfl)) rfl ?_
  first | refine WL.val (.indexAddr (.of rfl) (.of rfl) (by omega) (by omega) Try.underlying49 Try.sizeOf4) rfl ?_ | refine WL.val (.indexAddrI (.of rfl) (.of rfl) (by omega) (by omega) Try.underlying49 Try.sizeOf4) rfl ?_
  replace hS : Sat B w I (blk b9 ((List.replicate (s.length + 1) false).map Value.bool ++ []) 4 :: As) := by rw [List.map_replicate, List.append_nil]; exact hS
  refine WL.stE .bool (List.replicate (s.length + 1) false) [] (u := true) hS (k := 0) rfl (.of rfl) (.of rfl) rfl rfl Try.sizeOf4 (by omega) (by simp) ?_
  clear hS; intro w hS; dsimp only [List.set] at hS
  obtain ⟨J, hJ, hb, hS⟩ := hS.freeze (k := 0) rfl; try dsimp only [List.eraseIdx] at hS
  have hA : At J (ad b9 0) (((List.replicate (s.length + 1) false).set 0 true).map Value.bool) := ⟨rfl, _, _, _, hb, fun j v hj => by simpa using hj⟩
  refine WL.nil ?_
  refine WC.seq ?_
  refine WC.region ?_
  refine WL.val (.move (.of rfl)) rfl ?_
  refine WL.val (.move (.of rfl)) rfl ?_
  refine WL.val (.move (.of rfl)) rfl ?_
  refine WL.call Try.func24 rfl (evs_cons (.of rfl) (evs_cons (.of rfl) (evs_cons (.of rfl) evs_nil))) rfl (walk_any s (by omega) (l.length + 1) l p (by omega) hr hf (by omega) _ (ad b9 0) _ B w J As hS hA (by simp)) ?_
  clear hS
  rintro _ w ⟨J2, q, qc, R2, hJ2, rfl, hA2, hE2, hS⟩
  refine WL.val (.move (.of rfl)) rfl ?_
  refine WL.val (.len (.of rfl) Try.underlying9) rfl ?_
  first | refine WL.val (.indexAddr (.of rfl) (.of rfl) (by omega) (by omega) Try.underlying49 Try.sizeOf4) rfl ?_ | refine WL.val (.indexAddrI (.of rfl) (.of rfl) (by omega) (by omega) Try.underlying49 Try.sizeOf4) rfl ?_
  have hR2 := hE2.1
  refine WL.val (.ldEI .bool R2 false (.of rfl) hS hA2 rfl Try.isAgg4 (by omega) (by omega)) rfl ?_
  refine WL.val (.assign (.of rfl)) rfl ?_
  refine WL.nil ?_
  refine WC.ret ?_
  refine ret1 Try.results16 rfl ?_
  refine ⟨_, rfl, _, rfl, ?_, J2, hJ.trans hJ2, hS⟩
  rw [Int.toNat_natCast, hE2.2 s.length (Nat.le_refl _)]
  constructor
  · rintro ⟨i, h1, h2, h3⟩
    rcases Pat.getD_set_true _ _ _ h2 with h4 | h4
    · rw [getD_rep] at h4; cases h4
    · subst h4; simpa [seg] using h3
  · intro h; exact ⟨0, Nat.zero_le _, getD_set_self (by simp), by simpa [seg] using h⟩
theorem RefMatch_m {l : List UInt8} {Q : List Pl} (hq : cmp l = .ok Q) (s : List UInt8) (hs : s.length ≤ 1000) (B w : World) (I : Im) (As : List Assn) (hS : Sat B w I As) :
    Calls Try.prog 16 [S l, S s].toArray w (Ret fun v w' => v = .bool (mat Q s) ∧ ∃ J, Le I J ∧ Sat B w' J As) := by
  obtain ⟨hl, p, hr, hf, _, _⟩ := cmp_ok hq
  refine (RefMatch_any hr hf s (by omega) hs B w I As hS).mono fun x w' ⟨v, hx, b, h1, h2, h3⟩ => ⟨v, hx, ?_, h3⟩
  have e := mat_sem hq hr hf s
  rw [h1]
  congr 1
  cases b <;> cases hm : mat Q s <;> simp_all
end Go.Proofs.Ytigmejjkmoaimaa
