/- Part 7 of what the proof stands on: W17g, W18o, W18p, W18q, W18r, W18s, W18t, W18u, W18v, W18w. -/
import Derived.Test.YtchgkcbloeoopaaGreatDoorM18F
import Derived.DataElems
namespace Go.Proofs.YtchgkcbloeoopaaGreatDoor
open Gk Pat
set_option linter.unusedVariables false
set_option linter.unusedSimpArgs false
theorem info3_77 : Tryz.prog.info? 3 = some Tryz.t3 := by kernel_rfl
theorem info4_77 : Tryz.prog.info? 4 = some Tryz.t4 := by kernel_rfl
theorem bars_esc {l : List UInt8} {k : Nat} {d : Int} {out X : List Int} (h : (match l.drop (k + 1) with | [] => out | _ :: r' => barsGo r' ((k : Int) + 2) d out) = X) : barsGo (l.drop (k + 2)) ((k : Int) + 2) d out = X := by
 cases hd : l.drop (k + 1) with
 | nil =>
  rw [hd] at h
  have e : l.drop (k + 2) = [] := by rw [List.drop_eq_nil_iff] at hd ⊢; omega
  rw [e, barsGo_nil]; exact h
 | cons x r =>
  rw [hd] at h
  have e : l.drop (k + 2) = r := by rw [show k + 2 = (k + 1) + 1 from rfl, ← List.drop_drop, hd]; rfl
  rw [e]; exact h
set_option maxHeartbeats 800000 in
theorem bars_any (l : List UInt8) (i : Nat) (hi : i < l.length) (hl : l.length ≤ 1000000) (B w : World) (I : Im) (As : List Assn) (hS : Sat B w I As) :
  Calls Tryz.prog 77 [S l, I64 (i : Nat)].toArray w (Ret fun v w' => ∃ J a c, Le I J ∧ v = .slice a (barsGo (l.drop i) i 0 []).length c ∧ RS J a 1 (barsGo (l.drop i) i 0 []).length ((barsGo (l.drop i) i 0 []).map I64) ∧ Sat B w' J As) := by
 refine calls Tryz.func77 rfl Tryz.ntmps77 rfl ?_
 refine WC.seq ?_
 refine WC.region ?_
 refine WL.val (.assign (.of rfl)) rfl ?_
 refine WL.nil ?_
 refine WC.seq ?_
 refine WC.region ?_
 refine WL.val (.assign (.of rfl)) rfl ?_
 replace hS := hS.vecNil 3 1
 refine WL.nil ?_
 refine WC.seq ?_
 refine WC.region ?_
 refine WL.val (.assign (.of rfl)) rfl ?_
 refine WL.nil ?_
 refine WC.seq ?_
 refine WC.seq ?_
 refine WC.region ?_
 refine WL.val (.move (.of rfl)) rfl ?_
 refine WL.val (.assign (.of rfl)) rfl ?_
 refine WL.nil ?_
 refine WC.block ?_
 refine WC.loop (σ := Nat × Int × Value × List Int) (fun ⟨k, deep, v, out⟩ => [(0, S l), (5, v), (6, I64 deep), (7, I64 (k : Nat))]) (fun ⟨k, deep, v, out⟩ w => k ≤ l.length + 1 ∧ -(k : Int) ≤ deep ∧ deep ≤ k ∧ out.length ≤ k ∧ barsGo (l.drop k) k deep out = barsGo (l.drop i) i 0 [] ∧ Sat B w I (Vec 3 1 v out.length (out.map I64) :: As)) (fun ⟨k, deep, v, out⟩ => l.length + 1 - k) (i, 0, .slice none 0 0, []) ⟨rfl, rfl, rfl, rfl, trivial⟩ ⟨by omega, by omega, by omega, by simp, rfl, hS⟩ ?_
 rintro ⟨k, deep, v, out⟩ w ⟨hk, hd1, hd2, hol, hq, hS⟩
 change WC _ _ _ _ [(0, S l), (5, v), (6, I64 deep), (7, I64 (k : Nat))] w
 refine WC.seq ?_
 refine WC.seq ?_
 refine WC.region ?_
 refine WL.val (.move (.of rfl)) rfl ?_
 refine WL.val (.move (.of rfl)) rfl ?_
 refine WL.val (.len (.of rfl) Tryz.underlying9) rfl ?_
 refine WL.val (.lss (.of rfl) (.of rfl)) rfl ?_
 refine WL.nil ?_
 refine WC.cond rfl (fun hb12 => ?_) (fun hb12 => ?_)
 ·
  have hc12 := hb12; try simp only [Gk.cs0] at hc12
  refine WC.skip ?_
  refine WC.seq ?_
  refine WC.block ?_
  refine WC.seq ?_
  refine WC.region ?_
  refine WL.val (.move (.of rfl)) rfl ?_
  refine WL.val (.move (.of rfl)) rfl ?_
  refine WL.val (.index (.of rfl) (.of rfl) (by omega) (by omega) Tryz.underlying9) rfl ?_
  refine WL.nil ?_
  refine WC.block ?_
  refine WC.seq ?_
  refine WC.region ?_
  refine WL.val (.eql (.of rfl) (.of rfl)) rfl ?_
  refine WL.val (.assign (.of rfl)) rfl ?_
  refine WL.nil ?_
  refine WC.cond rfl (fun hb18 => ?_) (fun hb18 => ?_)
  ·
   have hc18 := hb18; try simp only [Gk.cs0] at hc18
   refine WC.region ?_
   refine WL.val (.move (.of rfl)) rfl ?_
   refine WL.val (.add (.of rfl) (.of rfl) ⟨by omega, by omega⟩) rfl ?_
   refine WL.val (.assign (.of rfl)) rfl ?_
   refine WL.nil ?_
   refine WC.region ?_
   refine WL.val (.move (.of rfl)) rfl ?_
   refine WL.val (.add (.of rfl) (.of rfl) ⟨by omega, by omega⟩) rfl ?_
   refine WL.val (.assign (.of rfl)) rfl ?_
   refine WL.nil ?_
   have e9 := hq
   rw [drop_at l (by omega), barsGo_cons, if_pos (by omega)] at e9
   have e9 := bars_esc e9
   refine ⟨(k + 2, deep, v, out), ⟨rfl, rfl, rfl, rfl, trivial⟩, ⟨by omega, by omega, by omega, by (try simp only [List.length_append, List.length_singleton]); omega, ?_, ?_⟩, by dsimp only; omega⟩
   ·exact e9
   ·exact hS
  ·
   have hc18 := hb18; try simp only [Gk.cs0] at hc18
   refine WC.seq ?_
   refine WC.region ?_
   refine WL.val (.eql (.of rfl) (.of rfl)) rfl ?_
   refine WL.val (.assign (.of rfl)) rfl ?_
   refine WL.nil ?_
   refine WC.cond rfl (fun hb22 => ?_) (fun hb22 => ?_)
   ·
    have hc22 := hb22; try simp only [Gk.cs0] at hc22
    refine WC.region ?_
    refine WL.val (.move (.of rfl)) rfl ?_
    refine WL.val (.add (.of rfl) (.of rfl) ⟨by omega, by omega⟩) rfl ?_
    refine WL.val (.assign (.of rfl)) rfl ?_
    refine WL.nil ?_
    refine WC.region ?_
    refine WL.val (.move (.of rfl)) rfl ?_
    refine WL.val (.add (.of rfl) (.of rfl) ⟨by omega, by omega⟩) rfl ?_
    refine WL.val (.assign (.of rfl)) rfl ?_
    refine WL.nil ?_
    have e9 := hq
    rw [drop_at l (by omega), barsGo_cons, if_neg (by omega), if_pos (by omega)] at e9
    refine ⟨(k + 1, deep + 1, v, out), ⟨rfl, rfl, rfl, rfl, trivial⟩, ⟨by omega, by omega, by omega, by (try simp only [List.length_append, List.length_singleton]); omega, ?_, ?_⟩, by dsimp only; omega⟩
    ·exact e9
    ·exact hS
   ·
    have hc22 := hb22; try simp only [Gk.cs0] at hc22
    refine WC.seq ?_
    refine WC.region ?_
    refine WL.val (.eql (.of rfl) (.of rfl)) rfl ?_
    refine WL.val (.assign (.of rfl)) rfl ?_
    refine WL.nil ?_
    refine WC.cond rfl (fun hb26 => ?_) (fun hb26 => ?_)
    ·
     have hc26 := hb26; try simp only [Gk.cs0] at hc26
     refine WC.seq ?_
     refine WC.region ?_
     refine WL.val (.move (.of rfl)) rfl ?_
     refine WL.val (.eql (.of rfl) (.of rfl)) rfl ?_
     refine WL.nil ?_
     refine WC.cond rfl (fun hb29 => ?_) (fun hb29 => ?_)
     ·
      have hc29 := hb29; try simp only [Gk.cs0] at hc29
      refine WC.region ?_
      refine WL.val (.move (.of rfl)) rfl ?_
      refine WL.val (.move (.of rfl)) rfl ?_
      refine WL.buildSlice (cs := [_]) hS (parts_cons (.of rfl) parts_nil) Tryz.underlying68 Tryz.sizeOf3 Tryz.zeroValue3 rfl rfl rfl rfl ?_
      clear hS; intro b32 w hS
      first | refine WL.append (size := 1) (bytes := 8) hS (.of rfl) (.of rfl) (k := 0) rfl Tryz.underlying68 info3_77 rfl rfl rfl rfl rfl rfl rfl ⟨by omega, by unfold maxLen; omega⟩ rfl ?_
      clear hS; intro v33 w hS; try dsimp only [List.set] at hS
      first | obtain ⟨a33, c33, rfl, hcap33, _⟩ := hS.vecSlice (k := 0) (v := v33) rfl
      refine WL.val (.assign (.of rfl)) rfl ?_
      refine WL.nil ?_
      refine WC.region ?_
      refine WL.val (.move (.of rfl)) rfl ?_
      refine WL.val (.add (.of rfl) (.of rfl) ⟨by omega, by omega⟩) rfl ?_
      refine WL.val (.assign (.of rfl)) rfl ?_
      refine WL.nil ?_
      have e9 := hq
      rw [drop_at l (by omega), barsGo_cons, if_neg (by omega), if_neg (by omega), if_pos (by omega), if_pos (by omega)] at e9
      refine ⟨(k + 1, deep, .slice a33 (out.length + 1) c33, out ++ [(k : Int)]), ⟨rfl, rfl, rfl, rfl, trivial⟩, ⟨by omega, by omega, by omega, by (try simp only [List.length_append, List.length_singleton]); omega, ?_, ?_⟩, by dsimp only; omega⟩
      ·exact e9
      ·rw [List.length_append, List.map_append]; exact hS
     ·
      have hc29 := hb29; try simp only [Gk.cs0] at hc29
      refine WC.skip ?_
      refine WC.region ?_
      refine WL.val (.move (.of rfl)) rfl ?_
      refine WL.val (.add (.of rfl) (.of rfl) ⟨by omega, by omega⟩) rfl ?_
      refine WL.val (.assign (.of rfl)) rfl ?_
      refine WL.nil ?_
      have e9 := hq
      rw [drop_at l (by omega), barsGo_cons, if_neg (by omega), if_neg (by omega), if_pos (by omega), if_neg (by omega)] at e9
      refine ⟨(k + 1, deep, v, out), ⟨rfl, rfl, rfl, rfl, trivial⟩, ⟨by omega, by omega, by omega, by (try simp only [List.length_append, List.length_singleton]); omega, ?_, ?_⟩, by dsimp only; omega⟩
      ·exact e9
      ·exact hS
    ·
     have hc26 := hb26; try simp only [Gk.cs0] at hc26
     refine WC.seq ?_
     refine WC.region ?_
     refine WL.val (.eql (.of rfl) (.of rfl)) rfl ?_
     refine WL.val (.assign (.of rfl)) rfl ?_
     refine WL.nil ?_
     refine WC.cond rfl (fun hb34 => ?_) (fun hb34 => ?_)
     ·
      have hc34 := hb34; try simp only [Gk.cs0] at hc34
      refine WC.seq ?_
      refine WC.region ?_
      refine WL.val (.move (.of rfl)) rfl ?_
      refine WL.val (.sub (.of rfl) (.of rfl) ⟨by omega, by omega⟩) rfl ?_
      refine WL.val (.assign (.of rfl)) rfl ?_
      refine WL.nil ?_
      refine WC.seq ?_
      refine WC.region ?_
      refine WL.val (.move (.of rfl)) rfl ?_
      refine WL.val (.eql (.of rfl) (.of rfl)) rfl ?_
      refine WL.nil ?_
      refine WC.cond rfl (fun hb39 => ?_) (fun hb39 => ?_)
      ·
       have hc39 := hb39; try simp only [Gk.cs0] at hc39
       refine WC.seq ?_
       refine WC.region ?_
       refine WL.val (.move (.of rfl)) rfl ?_
       refine WL.val (.move (.of rfl)) rfl ?_
       refine WL.buildSlice (cs := [_]) hS (parts_cons (.of rfl) parts_nil) Tryz.underlying68 Tryz.sizeOf3 Tryz.zeroValue3 rfl rfl rfl rfl ?_
       clear hS; intro b42 w hS
       first | refine WL.append (size := 1) (bytes := 8) hS (.of rfl) (.of rfl) (k := 0) rfl Tryz.underlying68 info3_77 rfl rfl rfl rfl rfl rfl rfl ⟨by omega, by unfold maxLen; omega⟩ rfl ?_
       clear hS; intro v43 w hS; try dsimp only [List.set] at hS
       first | obtain ⟨a43, c43, rfl, hcap43, _⟩ := hS.vecSlice (k := 0) (v := v43) rfl
       refine WL.val (.assign (.of rfl)) rfl ?_
       refine WL.nil ?_
       refine WC.ret ?_
       refine ret1 Tryz.results77 rfl ?_
       have e9 := hq
       rw [drop_at l (by omega), barsGo_cons, if_neg (by omega), if_neg (by omega), if_neg (by omega), if_pos (by omega), if_pos (by omega)] at e9
       rw [← e9]
       obtain ⟨J, hJ, hrs, hS⟩ := hS.freezeVec (k := 0) rfl
       exact ⟨_, rfl, J, _, _, hJ, by rw [List.length_append]; rfl, by rw [List.length_append, List.map_append]; exact hrs, hS⟩
      ·
       have hc39 := hb39; try simp only [Gk.cs0] at hc39
       refine WC.skip ?_
       refine WC.region ?_
       refine WL.val (.move (.of rfl)) rfl ?_
       refine WL.val (.add (.of rfl) (.of rfl) ⟨by omega, by omega⟩) rfl ?_
       refine WL.val (.assign (.of rfl)) rfl ?_
       refine WL.nil ?_
       have e9 := hq
       rw [drop_at l (by omega), barsGo_cons, if_neg (by omega), if_neg (by omega), if_neg (by omega), if_pos (by omega), if_neg (by omega)] at e9
       refine ⟨(k + 1, deep - 1, v, out), ⟨rfl, rfl, rfl, rfl, trivial⟩, ⟨by omega, by omega, by omega, by (try simp only [List.length_append, List.length_singleton]); omega, ?_, ?_⟩, by dsimp only; omega⟩
       ·exact e9
       ·exact hS
     ·
      have hc34 := hb34; try simp only [Gk.cs0] at hc34
      refine WC.skip ?_
      refine WC.region ?_
      refine WL.val (.move (.of rfl)) rfl ?_
      refine WL.val (.add (.of rfl) (.of rfl) ⟨by omega, by omega⟩) rfl ?_
      refine WL.val (.assign (.of rfl)) rfl ?_
      refine WL.nil ?_
      have e9 := hq
      rw [drop_at l (by omega), barsGo_cons, if_neg (by omega), if_neg (by omega), if_neg (by omega), if_neg (by omega)] at e9
      refine ⟨(k + 1, deep, v, out), ⟨rfl, rfl, rfl, rfl, trivial⟩, ⟨by omega, by omega, by omega, by (try simp only [List.length_append, List.length_singleton]); omega, ?_, ?_⟩, by dsimp only; omega⟩
      ·exact e9
      ·exact hS
 ·
  have hc12 := hb12; try simp only [Gk.cs0] at hc12
  refine WC.exit ?_
  refine WC.seq ?_
  refine WC.region ?_
  refine WL.val (.move (.of rfl)) rfl ?_
  refine WL.val (.assign (.of rfl)) rfl ?_
  refine WL.nil ?_
  refine WC.ret ?_
  refine ret1 Tryz.results77 rfl ?_
  obtain ⟨va, vc, rfl, _, _⟩ := hS.vecSlice (k := 0) rfl
  have e9 := hq
  rw [List.drop_of_length_le (by omega), barsGo_nil] at e9
  rw [← e9]
  obtain ⟨J, hJ, hrs, hS⟩ := hS.freezeVec (k := 0) rfl
  exact ⟨_, rfl, J, _, _, hJ, rfl, hrs, hS⟩
theorem ends_u {s : List UInt8} {fr0 fr : List Bool} {D : Lang} (hE : EndsAt s fr0 D fr) (p : Addr) (c : Nat) (kind : Int) (own : UInt8) (many : Bool) (k c0 : Int) (hu : ∀ x, takes kind own x = fitsP k c0 x) (hm : many = true ↔ (k = 2 ∨ k = 3)) (B w : World) (I : Im) (As : List Assn) (hS : Sat B w I As) (hp : At I p (fr.map Value.bool)) (hb : s.length ≤ 1000000) :
  Calls Tryz.prog 76 [S s, .slice (some p) (s.length + 1) c, I64 kind, U8 own.toNat, .bool many].toArray w (Ret fun v w' => ∃ J q R, Le I J ∧ v = .slice (some q) (s.length + 1) (s.length + 1) ∧ At J q (R.map Value.bool) ∧ EndsAt s fr0 (cat D (unit k c0)) R ∧ Sat B w' J As) := by
 have h := ends_any s fr p c kind own many B w I As hS hp hE.1 hb
 rw [hE.1] at h
 refine h.mono fun x w' ⟨v, hx, J, q, h1, h2, h3, h4⟩ => ⟨v, hx, J, q, _, h1, h2, h3, hE.cat (ends_unit hu hm), h4⟩
theorem last_get {ps : List Int} {x : Int} : (ps ++ [x]).getD (((ps ++ [x]).length : Int) - 1).toNat 0 = x := by
 have e : (((ps ++ [x]).length : Int) - 1).toNat = ps.length := by simp
 rw [e, List.getD_eq_getElem?_getD]; simp
set_option maxHeartbeats 1600000 in
theorem walk_any (s : List UInt8) (hs : s.length ≤ 100000) : ∀ (n : Nat) (l : List UInt8) (p : Pt), l.length < n → Rep l p → p.flat → l.length ≤ 100000 → ∀ (fr0 : List Bool) (pa0 : Addr) (c0 : Nat) (B w : World) (I : Im) (As : List Assn), Sat B w I As → At I pa0 (fr0.map Value.bool) → fr0.length = s.length + 1 →
  Calls Tryz.prog 62 [S l, S s, .slice (some pa0) (s.length + 1) c0].toArray w (Ret fun v w' => ∃ J q c R, Le I J ∧ v = .slice (some q) (s.length + 1) c ∧ At J q (R.map Value.bool) ∧ EndsAt s fr0 (sem p).1 R ∧ Sat B w' J As) := by
 intro n
 induction n with
 | zero =>
  intro l p hn
  omega
 | succ n ih =>
  intro l p hn hR0 hf0 hl fr0 pa0 c0 B w I As hS hA0 hfr0
  refine calls Tryz.func62 rfl Tryz.ntmps62 rfl ?_
  refine WC.seq ?_
  refine WC.region ?_
  refine WL.val (.assign (.of rfl)) rfl ?_
  refine WL.nil ?_
  refine WC.seq ?_
  refine WC.seq ?_
  refine WC.region ?_
  refine WL.val (.assign (.of rfl)) rfl ?_
  refine WL.nil ?_
  refine WC.block ?_
  refine WC.loop (σ := Nat × Pt × Lang × List Bool × Addr × Nat × Im) (fun ⟨k, r, D, fr, pa, c1, J⟩ => [(0, S l), (1, S s), (2, .slice (some pa) (s.length + 1) c1), (7, I64 (k : Nat))]) (fun ⟨k, r, D, fr, pa, c1, J⟩ w => k ≤ l.length ∧ Rep (l.drop k) r ∧ r.flat ∧ (∀ u, (sem p).1 u ↔ cat D (sem r).1 u) ∧ EndsAt s fr0 D fr ∧ At J pa (fr.map Value.bool) ∧ Le I J ∧ Sat B w J As) (fun ⟨k, r, D, fr, pa, c1, J⟩ => l.length - k) (0, p, (fun u => u = []), fr0, pa0, c0, I) ⟨rfl, rfl, rfl, rfl, trivial⟩ ⟨Nat.zero_le _, hR0, hf0, fun u => (cat_nil _ u).symm, EndsAt.nil hfr0, hA0, Le.refl I, hS⟩ ?_
  rintro ⟨k, r, D, fr, pa, c1, J⟩ w ⟨hk, hR, hfl, hsem, hE, hA, hJ, hS⟩
  change WC _ _ _ _ [(0, S l), (1, S s), (2, .slice (some pa) (s.length + 1) c1), (7, I64 (k : Nat))] w
  refine WC.seq ?_
  refine WC.seq ?_
  refine WC.region ?_
  refine WL.val (.move (.of rfl)) rfl ?_
  refine WL.val (.move (.of rfl)) rfl ?_
  refine WL.val (.len (.of rfl) Tryz.underlying9) rfl ?_
  refine WL.val (.lss (.of rfl) (.of rfl)) rfl ?_
  refine WL.nil ?_
  refine WC.cond rfl (fun hb17 => ?_) (fun hb17 => ?_)
  ·
   have hc17 := hb17; try simp only [Gk.cs0] at hc17
   refine WC.skip ?_
   refine WC.seq ?_
   refine WC.block ?_
   refine WC.seq ?_
   refine WC.region ?_
   refine WL.val (.move (.of rfl)) rfl ?_
   refine WL.val (.move (.of rfl)) rfl ?_
   refine WL.val (.index (.of rfl) (.of rfl) (by omega) (by omega) Tryz.underlying9) rfl ?_
   refine WL.nil ?_
   refine WC.block ?_
   refine WC.seq ?_
   refine WC.region ?_
   refine WL.val (.eql (.of rfl) (.of rfl)) rfl ?_
   refine WL.val (.assign (.of rfl)) rfl ?_
   refine WL.nil ?_
   refine WC.cond rfl (fun hb29 => ?_) (fun hb29 => ?_)
   ·
    have hc29 := hb29; try simp only [Gk.cs0] at hc29
    refine WC.region ?_
    refine WL.val (.move (.of rfl)) rfl ?_
    refine WL.val (.move (.of rfl)) rfl ?_
    obtain ⟨r', hr, hr2⟩ := inv_one hR (by omega) (by omega)
    subst hr
    refine WL.call Tryz.func76 rfl (evs_cons (.of rfl) (evs_cons (.of rfl) (evs_cons (.of rfl) (evs_cons (.of rfl) (evs_cons (.of rfl) evs_nil))))) rfl (ends_u hE pa c1 1 0 false 1 0 (fun x => by simp [takes, fitsP] <;> exact BEq.comm) (by decide) B w J As hS hA (by omega)) ?_
    clear hS
    rintro _ w ⟨J2, q, R2, hJ2, rfl, hA2, hE2, hS⟩
    refine WL.val (.assign (.of rfl)) rfl ?_
    refine WL.nil ?_
    refine WC.region ?_
    refine WL.val (.move (.of rfl)) rfl ?_
    refine WL.val (.add (.of rfl) (.of rfl) ⟨by omega, by omega⟩) rfl ?_
    refine WL.val (.assign (.of rfl)) rfl ?_
    refine WL.nil ?_
    refine ⟨(k + 1, r', _, R2, q, s.length + 1, J2), ⟨rfl, rfl, rfl, rfl, trivial⟩, ⟨by omega, hr2, hfl, fun u => (hsem u).trans (cat_assoc _ _ _ u).symm, hE2, hA2, hJ.trans hJ2, hS⟩, by dsimp only; omega⟩
   ·
    have hc29 := hb29; try simp only [Gk.cs0] at hc29
    refine WC.seq ?_
    refine WC.region ?_
    refine WL.val (.eql (.of rfl) (.of rfl)) rfl ?_
    refine WL.val (.assign (.of rfl)) rfl ?_
    refine WL.nil ?_
    refine WC.cond rfl (fun hb34 => ?_) (fun hb34 => ?_)
    ·
     have hc34 := hb34; try simp only [Gk.cs0] at hc34
     refine WC.seq ?_
     refine WC.region ?_
     refine WL.val (.move (.of rfl)) rfl ?_
     refine WL.val (.add (.of rfl) (.of rfl) ⟨by omega, by omega⟩) rfl ?_
     refine WL.val (.move (.of rfl)) rfl ?_
     refine WL.val (.len (.of rfl) Tryz.underlying9) rfl ?_
     refine WL.val (.lss (.of rfl) (.of rfl)) rfl ?_
     refine WL.val (.move (.of rfl)) rfl ?_
     refine WL.gval rfl rfl (fun hg1 => (.move (.of rfl))) rfl ?_
     refine WL.gval rfl rfl (fun hg1 => (.move (.of rfl))) rfl ?_
     refine WL.gval rfl rfl (fun hg1 => (.add (.gd hg1 rfl) (.of rfl) ⟨by omega, by omega⟩)) rfl ?_
     refine WL.gval rfl rfl (fun hg1 => (.index (.gd hg1 rfl) (.gd hg1 rfl) (by (try simp only [Gk.cs0] at hg1); omega) (by (try simp only [Gk.cs0] at hg1); omega) Tryz.underlying9)) rfl ?_
     refine WL.gval rfl rfl (fun hg1 => (.eql (.gd hg1 rfl) (.of rfl))) rfl ?_
     refine WL.val (.pand (.of rfl) (.of rfl) (.of rfl)) rfl ?_
     refine WL.nil ?_
     refine WC.cond rfl (fun hb47 => ?_) (fun hb47 => ?_)
     ·
      have hc47 := hb47; try simp only [Gk.cs0] at hc47
      refine WC.seq ?_
      refine WC.region ?_
      refine WL.val (.move (.of rfl)) rfl ?_
      refine WL.val (.add (.of rfl) (.of rfl) ⟨by omega, by omega⟩) rfl ?_
      refine WL.val (.assign (.of rfl)) rfl ?_
      refine WL.nil ?_
      refine WC.region ?_
      refine WL.val (.move (.of rfl)) rfl ?_
      refine WL.val (.move (.of rfl)) rfl ?_
      obtain ⟨r', hr, hr2⟩ := inv_all hR (by omega) (by omega) (by omega)
      subst hr
      refine WL.call Tryz.func76 rfl (evs_cons (.of rfl) (evs_cons (.of rfl) (evs_cons (.of rfl) (evs_cons (.of rfl) (evs_cons (.of rfl) evs_nil))))) rfl (ends_u hE pa c1 2 0 true 2 0 (fun x => by simp [takes, fitsP] <;> exact BEq.comm) (by decide) B w J As hS hA (by omega)) ?_
      clear hS
      rintro _ w ⟨J2, q, R2, hJ2, rfl, hA2, hE2, hS⟩
      refine WL.val (.assign (.of rfl)) rfl ?_
      refine WL.nil ?_
      refine WC.region ?_
      refine WL.val (.move (.of rfl)) rfl ?_
      refine WL.val (.add (.of rfl) (.of rfl) ⟨by omega, by omega⟩) rfl ?_
      refine WL.val (.assign (.of rfl)) rfl ?_
      refine WL.nil ?_
      refine ⟨(k + 2, r', _, R2, q, s.length + 1, J2), ⟨rfl, rfl, rfl, rfl, trivial⟩, ⟨by omega, hr2, hfl, fun u => (hsem u).trans (cat_assoc _ _ _ u).symm, hE2, hA2, hJ.trans hJ2, hS⟩, by dsimp only; omega⟩
     ·
      have hc47 := hb47; try simp only [Gk.cs0] at hc47
      refine WC.region ?_
      refine WL.val (.move (.of rfl)) rfl ?_
      refine WL.val (.move (.of rfl)) rfl ?_
      obtain ⟨r', hr, hr2⟩ := inv_few hR (by omega) (by omega) (by omega)
      subst hr
      refine WL.call Tryz.func76 rfl (evs_cons (.of rfl) (evs_cons (.of rfl) (evs_cons (.of rfl) (evs_cons (.of rfl) (evs_cons (.of rfl) evs_nil))))) rfl (ends_u hE pa c1 1 0 true 3 0 (fun x => by simp [takes, fitsP] <;> exact BEq.comm) (by decide) B w J As hS hA (by omega)) ?_
      clear hS
      rintro _ w ⟨J2, q, R2, hJ2, rfl, hA2, hE2, hS⟩
      refine WL.val (.assign (.of rfl)) rfl ?_
      refine WL.nil ?_
      refine WC.region ?_
      refine WL.val (.move (.of rfl)) rfl ?_
      refine WL.val (.add (.of rfl) (.of rfl) ⟨by omega, by omega⟩) rfl ?_
      refine WL.val (.assign (.of rfl)) rfl ?_
      refine WL.nil ?_
      refine ⟨(k + 1, r', _, R2, q, s.length + 1, J2), ⟨rfl, rfl, rfl, rfl, trivial⟩, ⟨by omega, hr2, hfl, fun u => (hsem u).trans (cat_assoc _ _ _ u).symm, hE2, hA2, hJ.trans hJ2, hS⟩, by dsimp only; omega⟩
    ·
     have hc34 := hb34; try simp only [Gk.cs0] at hc34
     refine WC.seq ?_
     refine WC.region ?_
     refine WL.val (.eql (.of rfl) (.of rfl)) rfl ?_
     refine WL.val (.assign (.of rfl)) rfl ?_
     refine WL.nil ?_
     refine WC.cond rfl (fun hb56 => ?_) (fun hb56 => ?_)
     ·
      have hc56 := hb56; try simp only [Gk.cs0] at hc56
      refine WC.seq ?_
      have hesc := (inv_esc hR (by omega) (by omega)).1
      refine WC.region ?_
      refine WL.val (.move (.of rfl)) rfl ?_
      refine WL.val (.add (.of rfl) (.of rfl) ⟨by omega, by omega⟩) rfl ?_
      refine WL.val (.assign (.of rfl)) rfl ?_
      refine WL.nil ?_
      refine WC.region ?_
      refine WL.val (.move (.of rfl)) rfl ?_
      refine WL.val (.move (.of rfl)) rfl ?_
      refine WL.val (.move (.of rfl)) rfl ?_
      refine WL.val (.move (.of rfl)) rfl ?_
      refine WL.val (.index (.of rfl) (.of rfl) (by omega) (by omega) Tryz.underlying9) rfl ?_
      obtain ⟨_, r', hr, hr2⟩ := inv_esc hR (by omega) (by omega)
      subst hr
      refine WL.call Tryz.func76 rfl (evs_cons (.of rfl) (evs_cons (.of rfl) (evs_cons (.of rfl) (evs_cons (.of rfl) (evs_cons (.of rfl) evs_nil))))) rfl (ends_u hE pa c1 0 (at_ l ((k : Int) + 1)) false 0 ((at_ l ((k : Int) + 1)).toNat : Int) (fun x => by simp [takes, fitsP] <;> exact BEq.comm) (by decide) B w J As hS hA (by omega)) ?_
      clear hS
      rintro _ w ⟨J2, q, R2, hJ2, rfl, hA2, hE2, hS⟩
      refine WL.val (.assign (.of rfl)) rfl ?_
      refine WL.nil ?_
      refine WC.region ?_
      refine WL.val (.move (.of rfl)) rfl ?_
      refine WL.val (.add (.of rfl) (.of rfl) ⟨by omega, by omega⟩) rfl ?_
      refine WL.val (.assign (.of rfl)) rfl ?_
      refine WL.nil ?_
      refine ⟨(k + 2, r', _, R2, q, s.length + 1, J2), ⟨rfl, rfl, rfl, rfl, trivial⟩, ⟨by omega, hr2, hfl, fun u => (hsem u).trans (cat_assoc _ _ _ u).symm, hE2, hA2, hJ.trans hJ2, hS⟩, by dsimp only; omega⟩
     ·
      have hc56 := hb56; try simp only [Gk.cs0] at hc56
      refine WC.seq ?_
      refine WC.region ?_
      refine WL.val (.eql (.of rfl) (.of rfl)) rfl ?_
      refine WL.val (.assign (.of rfl)) rfl ?_
      refine WL.nil ?_
      refine WC.cond rfl (fun hb66 => ?_) (fun hb66 => ?_)
      ·
       have hc66 := hb66; try simp only [Gk.cs0] at hc66
       refine WC.seq ?_
       refine WC.region ?_
       refine WL.val (.move (.of rfl)) rfl ?_
       refine WL.val (.move (.of rfl)) rfl ?_
       obtain ⟨t1, t2, b, r', hd0, hr, hr1, hr2, hd1, hk2, hk3⟩ := inv_grp hR (by omega) (by omega)
       subst hr
       obtain ⟨ps, halts, hbars⟩ := bars_grp hr1 t2 (k : Int)
       rw [← hd0] at hbars
       refine WL.call Tryz.func77 rfl (evs_cons (.of rfl) (evs_cons (.of rfl) evs_nil)) rfl (bars_any l k (by omega) (by omega) B w J As hS) ?_
       clear hS
       rintro _ w ⟨J2, la, lc, hJ2, rfl, hla, hS⟩
       generalize hallE0 : barsGo (l.drop k) k 0 [] = all at hla hbars ⊢
       have hallE := hbars
       obtain ⟨lp, rfl, hlA⟩ := hla.2 (by rw [hbars]; simp)
       have hps := alts_len halts
       have hal : all.length = ps.length + 1 := by rw [hallE]; simp
       have hlast : all.getD ((all.length : Int) - 1).toNat 0 = (k : Int) + 1 + t1.length := by rw [hallE]; exact last_get
       have ht1 : t1.length ≤ l.length := by omega
       refine WL.val (.assign (.of rfl)) rfl ?_
       refine WL.nil ?_
       refine WC.seq ?_
       refine WC.region ?_
       refine WL.val (.move (.of rfl)) rfl ?_
       refine WL.val (.len (.of rfl) Tryz.underlying9) rfl ?_
       refine WL.val (.add (.of rfl) (.of rfl) ⟨by omega, by omega⟩) rfl ?_
       refine WL.make (l := s.length + 1) hS (.of rfl) (.of rfl) Tryz.underlying97 info4_77 rfl (by simp [Tryz.t4] <;> omega) (by omega) rfl rfl rfl ?_
       clear hS; intro b74 w hS
       refine WL.val (.assign (.of rfl)) rfl ?_
       refine WL.nil ?_
       refine WC.seq ?_
       refine WC.region ?_
       refine WL.val (.move (.of rfl)) rfl ?_
       refine WL.val (.add (.of rfl) (.of rfl) ⟨by omega, by omega⟩) rfl ?_
       refine WL.val (.assign (.of rfl)) rfl ?_
       refine WL.nil ?_
       refine WC.seq ?_
       refine WC.seq ?_
       refine WC.region ?_
       refine WL.val (.assign (.of rfl)) rfl ?_
       refine WL.nil ?_
       refine WC.block ?_
       refine WC.loop (σ := Nat × Nat × Lang × List Bool × Im) (fun ⟨m, at0, Dg, S1, J4⟩ => [(0, S l), (1, S s), (2, .slice (some pa) (s.length + 1) c1), (8, .slice (some lp) all.length lc), (9, .slice (some (ad b74 0)) (s.length + 1) (s.length + 1)), (10, I64 (at0 : Nat)), (11, I64 (m : Nat))]) (fun ⟨m, at0, Dg, S1, J4⟩ w => m ≤ all.length ∧ EndsAt s fr Dg S1 ∧ AltInv l t2 b all ((k : Int) + 1 + t1.length) m at0 Dg ∧ Le J2 J4 ∧ Sat B w J4 (blk b74 ((S1).map Value.bool ++ []) 4 :: As)) (fun ⟨m, at0, Dg, S1, J4⟩ => all.length - m) (0, k + 1, (fun _ => False), List.replicate (s.length + 1) false, J2) ⟨rfl, rfl, rfl, rfl, rfl, rfl, rfl, trivial⟩ ⟨Nat.zero_le _, EndsAt.none s fr, ⟨fun _ => ⟨t1, b, ps, by rw [hallE]; rfl, by simpa using halts, hd1, by simp, fun u => by simp⟩, fun h => by rw [hallE] at h; simp at h⟩, Le.refl _, by rw [List.map_replicate, List.append_nil]; exact hS⟩ ?_
       rintro ⟨m, at0, Dg, S1, J4⟩ w ⟨hm, hES, hAlt, hJ4, hS⟩
       change WC _ _ _ _ [(0, S l), (1, S s), (2, .slice (some pa) (s.length + 1) c1), (8, .slice (some lp) all.length lc), (9, .slice (some (ad b74 0)) (s.length + 1) (s.length + 1)), (10, I64 (at0 : Nat)), (11, I64 (m : Nat))] w
       refine WC.seq ?_
       refine WC.seq ?_
       refine WC.region ?_
       refine WL.val (.move (.of rfl)) rfl ?_
       refine WL.val (.move (.of rfl)) rfl ?_
       refine WL.val (.lenSlice (.of rfl) Tryz.underlying68) rfl ?_
       refine WL.val (.lss (.of rfl) (.of rfl)) rfl ?_
       refine WL.nil ?_
       refine WC.cond rfl (fun hb80 => ?_) (fun hb80 => ?_)
       ·
        have hc80 := hb80; try simp only [Gk.cs0] at hc80
        refine WC.skip ?_
        refine WC.seq ?_
        refine WC.block ?_
        refine WC.seq ?_
        have hA4 := hA.mono (hJ2.trans hJ4)
        obtain ⟨q, b1, hq1, hq2, hq3, hq4, hb1, hb1f, hAlt2⟩ := alt_step hAlt (by omega)
        have hlA4 := hlA.mono hJ4
        have hqd : all.getD ((m : Int)).toNat 0 = (q : Int) := by rw [Int.toNat_natCast, List.getD_eq_getElem?_getD, hq1]; rfl
        refine WC.region ?_
        refine WL.val (.move (.of rfl)) rfl ?_
        refine WL.val (.move (.of rfl)) rfl ?_
        refine WL.val (.move (.of rfl)) rfl ?_
        refine WL.val (.move (.of rfl)) rfl ?_
        first | refine WL.val (.indexAddr (.of rfl) (.of rfl) (by omega) (by omega) Tryz.underlying68 Tryz.sizeOf3) rfl ?_ | refine WL.val (.indexAddrI (.of rfl) (.of rfl) (by omega) (by omega) Tryz.underlying68 Tryz.sizeOf3) rfl ?_
        refine WL.val (.ldEI I64 all 0 (.of rfl) hS hlA4 rfl Tryz.isAgg3 (by omega) (by omega)) rfl ?_
        rw [hqd]
        refine WL.val (.sub3 (.of rfl) (.of rfl) (.of rfl) (by omega) (by omega) (by omega) Tryz.underlying9) rfl ?_
        rw [Int.toNat_natCast, Int.toNat_natCast]
        refine WL.val (.move (.of rfl)) rfl ?_
        refine WL.val (.move (.of rfl)) rfl ?_
        refine WL.call Tryz.func62 rfl (evs_cons (.of rfl) (evs_cons (.of rfl) (evs_cons (.of rfl) evs_nil))) rfl (ih ((l.drop at0).take (q - at0)) b1 (by simp; omega) hb1 hb1f (by simp; omega) fr pa c1 B w J4 _ hS hA4 hE.1) ?_
        clear hS
        rintro _ w ⟨J6, qa, qc, R6, hJ6, rfl, hA6, hE6, hS⟩
        refine WL.val (.assign (.of rfl)) rfl ?_
        refine WL.nil ?_
        refine WC.seq ?_
        refine WC.seq ?_
        refine WC.region ?_
        refine WL.val (.assign (.of rfl)) rfl ?_
        refine WL.nil ?_
        refine WC.block ?_
        refine WC.loop (σ := Nat) (fun j => [(0, S l), (1, S s), (2, .slice (some pa) (s.length + 1) c1), (8, .slice (some lp) all.length lc), (9, .slice (some (ad b74 0)) (s.length + 1) (s.length + 1)), (11, I64 (m : Nat)), (12, .slice (some qa) (s.length + 1) qc), (13, I64 (j : Nat))]) (fun j w => j ≤ s.length + 1 ∧ Sat B w J6 (blk b74 ((iter (orAt R6) S1 j).map Value.bool ++ []) 4 :: As)) (fun j => s.length + 1 - j) 0 ⟨rfl, rfl, rfl, rfl, rfl, rfl, rfl, rfl, trivial⟩ ⟨Nat.zero_le _, hS⟩ ?_
        rintro j w ⟨hj, hS⟩
        change WC _ _ _ _ [(0, S l), (1, S s), (2, .slice (some pa) (s.length + 1) c1), (8, .slice (some lp) all.length lc), (9, .slice (some (ad b74 0)) (s.length + 1) (s.length + 1)), (11, I64 (m : Nat)), (12, .slice (some qa) (s.length + 1) qc), (13, I64 (j : Nat))] w
        have ho := (orAt_iter R6 S1 j).1
        have hS1l := hES.1
        have hR6l := hE6.1
        obtain ⟨oj, hoj⟩ : ∃ oj, oj = iter (orAt R6) S1 j := ⟨_, rfl⟩
        rw [← hoj] at hS ho
        refine WC.seq ?_
        refine WC.seq ?_
        refine WC.region ?_
        refine WL.val (.move (.of rfl)) rfl ?_
        refine WL.val (.move (.of rfl)) rfl ?_
        refine WL.val (.len (.of rfl) Tryz.underlying9) rfl ?_
        refine WL.val (.leq (.of rfl) (.of rfl)) rfl ?_
        refine WL.nil ?_
        refine WC.cond rfl (fun hb96 => ?_) (fun hb96 => ?_)
        ·
         have hc96 := hb96; try simp only [Gk.cs0] at hc96
         refine WC.skip ?_
         refine WC.seq ?_
         refine WC.block ?_
         refine WC.region ?_
         refine WL.val (.move (.of rfl)) rfl ?_
         refine WL.val (.move (.of rfl)) rfl ?_
         refine WL.val (.move (.of rfl)) rfl ?_
         refine WL.val (.move (.of rfl)) rfl ?_
         first | refine WL.val (.indexAddr (.of rfl) (.of rfl) (by omega) (by omega) Tryz.underlying97 Tryz.sizeOf4) rfl ?_ | refine WL.val (.indexAddrI (.of rfl) (.of rfl) (by omega) (by omega) Tryz.underlying97 Tryz.sizeOf4) rfl ?_
         refine WL.val (.ldE .bool oj false [] (.of rfl) hS (k := 0) rfl rfl Tryz.isAgg4 (by omega) (by omega)) rfl ?_
         refine WL.val (.move (.of rfl)) rfl ?_
         refine WL.gval rfl rfl (fun hg1 => (.move (.of rfl))) rfl ?_
         refine WL.gval rfl rfl (fun hg1 => (.move (.of rfl))) rfl ?_
         refine WL.gval rfl rfl (fun hg1 => (by first | exact .indexAddr (.gd hg1 rfl) (.gd hg1 rfl) (by (try simp only [Gk.cs0] at hg1); omega) (by (try simp only [Gk.cs0] at hg1); omega) Tryz.underlying97 Tryz.sizeOf4 | exact .indexAddrI (.gd hg1 rfl) (.gd hg1 rfl) (by (try simp only [Gk.cs0] at hg1); omega) (by (try simp only [Gk.cs0] at hg1); omega) Tryz.underlying97 Tryz.sizeOf4)) rfl ?_
         refine WL.gval rfl rfl (fun hg1 => .ldEI .bool R6 false (.gd hg1 rfl) hS hA6 rfl Tryz.isAgg4 (by omega) (by omega)) rfl ?_
         refine WL.val (.por (.of rfl) (.of rfl) (.of rfl)) rfl ?_
         first | refine WL.val (.indexAddr (.of rfl) (.of rfl) (by omega) (by omega) Tryz.underlying97 Tryz.sizeOf4) rfl ?_ | refine WL.val (.indexAddrI (.of rfl) (.of rfl) (by omega) (by omega) Tryz.underlying97 Tryz.sizeOf4) rfl ?_
         refine WL.stE .bool oj [] (u := oj.getD ((j : Int)).toNat false || R6.getD ((j : Int)).toNat false) hS (k := 0) rfl (.of rfl) (.of rfl) rfl rfl Tryz.sizeOf4 (by omega) (by omega) ?_
         clear hS; intro w hS; dsimp only [List.set] at hS
         refine WL.nil ?_
         refine WC.region ?_
         refine WL.val (.move (.of rfl)) rfl ?_
         refine WL.val (.add (.of rfl) (.of rfl) ⟨by omega, by omega⟩) rfl ?_
         refine WL.val (.assign (.of rfl)) rfl ?_
         refine WL.nil ?_
         refine ⟨j + 1, ⟨rfl, rfl, rfl, rfl, rfl, rfl, rfl, rfl, trivial⟩, ⟨by omega, ?_⟩, by omega⟩
         rw [iter, ← hoj]; unfold orAt; simp only [Int.toNat_natCast] at hS; exact hS
        ·
         have hc96 := hb96; try simp only [Gk.cs0] at hc96
         refine WC.exit ?_
         have hlA6 := hlA4.mono hJ6
         refine WC.region ?_
         refine WL.val (.move (.of rfl)) rfl ?_
         refine WL.val (.move (.of rfl)) rfl ?_
         first | refine WL.val (.indexAddr (.of rfl) (.of rfl) (by omega) (by omega) Tryz.underlying68 Tryz.sizeOf3) rfl ?_ | refine WL.val (.indexAddrI (.of rfl) (.of rfl) (by omega) (by omega) Tryz.underlying68 Tryz.sizeOf3) rfl ?_
         refine WL.val (.ldEI I64 all 0 (.of rfl) hS hlA6 rfl Tryz.isAgg3 (by omega) (by omega)) rfl ?_
         rw [hqd]
         refine WL.val (.add (.of rfl) (.of rfl) ⟨by omega, by omega⟩) rfl ?_
         refine WL.val (.assign (.of rfl)) rfl ?_
         refine WL.nil ?_
         refine WC.region ?_
         refine WL.val (.move (.of rfl)) rfl ?_
         refine WL.val (.add (.of rfl) (.of rfl) ⟨by omega, by omega⟩) rfl ?_
         refine WL.val (.assign (.of rfl)) rfl ?_
         refine WL.nil ?_
         obtain rfl : j = s.length + 1 := by omega
         refine ⟨(m + 1, q + 1, _, iter (orAt R6) S1 (s.length + 1), J6), ⟨rfl, rfl, rfl, rfl, rfl, rfl, rfl, trivial⟩, ⟨by omega, hES.or hE6, hAlt2, hJ4.trans hJ6, by rw [hoj] at hS; exact hS⟩, by dsimp only; omega⟩
       ·
        have hc80 := hb80; try simp only [Gk.cs0] at hc80
        refine WC.exit ?_
        refine WC.seq ?_
        refine WC.region ?_
        refine WL.val (.move (.of rfl)) rfl ?_
        refine WL.val (.assign (.of rfl)) rfl ?_
        refine WL.nil ?_
        have hlA7 := hlA.mono hJ4
        have hm9 : m = all.length := by omega
        refine WC.region ?_
        refine WL.val (.move (.of rfl)) rfl ?_
        refine WL.val (.move (.of rfl)) rfl ?_
        refine WL.val (.lenSlice (.of rfl) Tryz.underlying68) rfl ?_
        refine WL.val (.sub (.of rfl) (.of rfl) ⟨by omega, by omega⟩) rfl ?_
        first | refine WL.val (.indexAddr (.of rfl) (.of rfl) (by omega) (by omega) Tryz.underlying68 Tryz.sizeOf3) rfl ?_ | refine WL.val (.indexAddrI (.of rfl) (.of rfl) (by omega) (by omega) Tryz.underlying68 Tryz.sizeOf3) rfl ?_
        refine WL.val (.ldEI I64 all 0 (.of rfl) hS hlA7 rfl Tryz.isAgg3 (by omega) (by omega)) rfl ?_
        rw [hlast]
        refine WL.val (.assign (.of rfl)) rfl ?_
        refine WL.nil ?_
        refine WC.region ?_
        refine WL.val (.move (.of rfl)) rfl ?_
        refine WL.val (.add (.of rfl) (.of rfl) ⟨by omega, by omega⟩) rfl ?_
        refine WL.val (.assign (.of rfl)) rfl ?_
        refine WL.nil ?_
        obtain rfl : m = all.length := by omega
        obtain ⟨J5, hJ5, hb5, hS⟩ := hS.freeze (k := 0) rfl; try dsimp only [List.eraseIdx] at hS
        refine ⟨(k + 1 + t1.length + 1, r', _, S1, ad b74 0, s.length + 1, J5), ⟨rfl, rfl, rfl, rfl, trivial⟩, ⟨by omega, by rw [hk2]; exact hr2, hfl, fun u => (hsem u).trans (cat_assoc _ _ _ u).symm, hE.cat (hES.congr fun u => (hAlt.2 rfl u).symm), ⟨rfl, _, _, _, hb5, fun j v hj => by simpa using hj⟩, ((hJ.trans hJ2).trans hJ4).trans hJ5, hS⟩, by dsimp only; omega⟩
      ·
       have hc66 := hb66; try simp only [Gk.cs0] at hc66
       refine WC.region ?_
       refine WL.val (.move (.of rfl)) rfl ?_
       refine WL.val (.move (.of rfl)) rfl ?_
       refine WL.val (.move (.of rfl)) rfl ?_
       refine WL.val (.move (.of rfl)) rfl ?_
       refine WL.val (.index (.of rfl) (.of rfl) (by omega) (by omega) Tryz.underlying9) rfl ?_
       obtain ⟨r', hr, hr2⟩ := inv_byte hR hfl (by omega) (by omega) (by omega) (by omega) (by omega)
       subst hr
       refine WL.call Tryz.func76 rfl (evs_cons (.of rfl) (evs_cons (.of rfl) (evs_cons (.of rfl) (evs_cons (.of rfl) (evs_cons (.of rfl) evs_nil))))) rfl (ends_u hE pa c1 0 (at_ l (k : Int)) false 0 ((at_ l (k : Int)).toNat : Int) (fun x => by simp [takes, fitsP] <;> exact BEq.comm) (by decide) B w J As hS hA (by omega)) ?_
       clear hS
       rintro _ w ⟨J2, q, R2, hJ2, rfl, hA2, hE2, hS⟩
       refine WL.val (.assign (.of rfl)) rfl ?_
       refine WL.nil ?_
       refine WC.region ?_
       refine WL.val (.move (.of rfl)) rfl ?_
       refine WL.val (.add (.of rfl) (.of rfl) ⟨by omega, by omega⟩) rfl ?_
       refine WL.val (.assign (.of rfl)) rfl ?_
       refine WL.nil ?_
       refine ⟨(k + 1, r', _, R2, q, s.length + 1, J2), ⟨rfl, rfl, rfl, rfl, trivial⟩, ⟨by omega, hr2, hfl, fun u => (hsem u).trans (cat_assoc _ _ _ u).symm, hE2, hA2, hJ.trans hJ2, hS⟩, by dsimp only; omega⟩
  ·
   have hc17 := hb17; try simp only [Gk.cs0] at hc17
   refine WC.exit ?_
   refine WC.seq ?_
   refine WC.region ?_
   refine WL.val (.move (.of rfl)) rfl ?_
   refine WL.val (.assign (.of rfl)) rfl ?_
   refine WL.nil ?_
   refine WC.ret ?_
   refine ret1 Tryz.results62 rfl ?_
   refine ⟨_, rfl, J, pa, c1, fr, hJ, rfl, hA, hE.congr fun u => ?_, hS⟩
   rw [List.drop_of_length_le (by omega)] at hR
   obtain rfl := rep_nil hR
   exact ((hsem u).trans (cat_end _ u)).symm
theorem RefMatch_any {l : List UInt8} {p : Pt} (hr : Rep l p) (hf : p.flat) (s : List UInt8) (hl : l.length ≤ 1000) (hs : s.length ≤ 1000) (B w : World) (I : Im) (As : List Assn) (hS : Sat B w I As) :
  Calls Tryz.prog 42 [S l, S s].toArray w (Ret fun v w' => ∃ b, v = .bool b ∧ (b = true ↔ (sem p).1 s) ∧ ∃ J, Le I J ∧ Sat B w' J As) := by
 refine calls Tryz.func42 rfl Tryz.ntmps42 rfl ?_
 refine WC.seq ?_
 refine WC.region ?_
 refine WL.val (.assign (.of rfl)) rfl ?_
 refine WL.nil ?_
 refine WC.seq ?_
 refine WC.region ?_
 refine WL.val (.move (.of rfl)) rfl ?_
 refine WL.val (.len (.of rfl) Tryz.underlying9) rfl ?_
 refine WL.val (.add (.of rfl) (.of rfl) ⟨by omega, by omega⟩) rfl ?_
 refine WL.make (l := s.length + 1) hS (.of rfl) (.of rfl) Tryz.underlying97 info4_77 rfl (by simp [Tryz.t4] <;> omega) (by omega) rfl rfl rfl ?_
 clear hS; intro b9 w hS
 refine WL.val (.assign (.of rfl)) rfl ?_
 refine WL.nil ?_
 refine WC.seq ?_
 refine WC.region ?_
 refine WL.val (.move (.of rfl)) rfl ?_
 first | refine WL.val (.indexAddr (.of rfl) (.of rfl) (by omega) (by omega) Tryz.underlying97 Tryz.sizeOf4) rfl ?_ | refine WL.val (.indexAddrI (.of rfl) (.of rfl) (by omega) (by omega) Tryz.underlying97 Tryz.sizeOf4) rfl ?_
 replace hS : Sat B w I (blk b9 ((List.replicate (s.length + 1) false).map Value.bool ++ []) 4 :: As) := by rw [List.map_replicate, List.append_nil]; exact hS
 refine WL.stE .bool (List.replicate (s.length + 1) false) [] (u := true) hS (k := 0) rfl (.of rfl) (.of rfl) rfl rfl Tryz.sizeOf4 (by omega) (by simp) ?_
 clear hS; intro w hS; dsimp only [List.set] at hS
 obtain ⟨J, hJ, hb, hS⟩ := hS.freeze (k := 0) rfl; try dsimp only [List.eraseIdx] at hS
 have hA : At J (ad b9 0) (((List.replicate (s.length + 1) false).set 0 true).map Value.bool) := ⟨rfl, _, _, _, hb, fun j v hj => by simpa using hj⟩
 refine WL.nil ?_
 refine WC.seq ?_
 refine WC.region ?_
 refine WL.val (.move (.of rfl)) rfl ?_
 refine WL.val (.move (.of rfl)) rfl ?_
 refine WL.val (.move (.of rfl)) rfl ?_
 refine WL.call Tryz.func62 rfl (evs_cons (.of rfl) (evs_cons (.of rfl) (evs_cons (.of rfl) evs_nil))) rfl (walk_any s (by omega) (l.length + 1) l p (by omega) hr hf (by omega) _ (ad b9 0) _ B w J As hS hA (by simp)) ?_
 clear hS
 rintro _ w ⟨J2, q, qc, R2, hJ2, rfl, hA2, hE2, hS⟩
 refine WL.val (.move (.of rfl)) rfl ?_
 refine WL.val (.len (.of rfl) Tryz.underlying9) rfl ?_
 first | refine WL.val (.indexAddr (.of rfl) (.of rfl) (by omega) (by omega) Tryz.underlying97 Tryz.sizeOf4) rfl ?_ | refine WL.val (.indexAddrI (.of rfl) (.of rfl) (by omega) (by omega) Tryz.underlying97 Tryz.sizeOf4) rfl ?_
 have hR2 := hE2.1
 refine WL.val (.ldEI .bool R2 false (.of rfl) hS hA2 rfl Tryz.isAgg4 (by omega) (by omega)) rfl ?_
 refine WL.val (.assign (.of rfl)) rfl ?_
 refine WL.nil ?_
 refine WC.ret ?_
 refine ret1 Tryz.results42 rfl ?_
 refine ⟨_, rfl, _, rfl, ?_, J2, hJ.trans hJ2, hS⟩
 rw [Int.toNat_natCast, hE2.2 s.length (Nat.le_refl _)]
 constructor
 ·rintro ⟨i, h1, h2, h3⟩
  rcases Pat.getD_set_true _ _ _ h2 with h4 | h4
  ·rw [getD_rep] at h4; cases h4
  ·subst h4; simpa [seg] using h3
 ·intro h; exact ⟨0, Nat.zero_le _, getD_set_self (by simp), by simpa [seg] using h⟩
end Go.Proofs.YtchgkcbloeoopaaGreatDoor
namespace Go.Proofs.YtchgkcbloeoopaaGreatDoor
open Gk Pat
set_option linter.unusedVariables false
set_option linter.unusedSimpArgs false
theorem bld37_20 : Bld Tryz.prog 37 [(0, 1), (1, 1), (2, 1), (3, 1), (4, 1), (5, 1), (6, 1), (7, 1)] [.int .i64 0, .float .f64 0, S [], .bool false, .bool false, .bool false, S [], .slice none 0 0] := bld_of Tryz.underlying37 Tryz.zeroValue37 (fun w => by simp [go_sem])
theorem cmp_of_chk {l : List UInt8} (h : (chk l).1 = 0) : ∃ Q, cmp l = .ok Q := by
 unfold chk at h
 split at h
 ·cases h
 ·rename_i hl
  cases hc : cmp l with
  | ok Q => exact ⟨Q, rfl⟩
  | error e =>
   unfold cmp at hc
   rw [if_neg hl] at hc
   have := (cmpGo_chk l.length l 0 [] [] [] (Nat.le_refl _) rfl).1 e hc
   rw [this.1] at h
   exact absurd h this.2
theorem refMatch_e (l s : List UInt8) (hQ : ∃ Q, cmp l = .ok Q) (hs : s.length ≤ 1000) (B w : World) (I : Im) (As : List Assn) (hS : Sat B w I As) :
  Calls Tryz.prog 42 [S l, S s].toArray w (Ret fun v w' => ∃ J, v = .bool (mtch l s).1 ∧ Le I J ∧ Sat B w' J As) := by
 obtain ⟨Q, hQ⟩ := hQ
 have hm : (mtch l s).2 = true := by unfold mtch; rw [hQ]
 obtain ⟨p, hr, hf, _, hl, ht⟩ := mt_ok hm
 refine (RefMatch_any hr hf s (by omega) hs B w I As hS).mono fun e w' he => ?_
 obtain ⟨v, rfl, b, rfl, hb, J, hJ, hS'⟩ := he
 refine ⟨_, rfl, J, ?_, hJ, hS'⟩
 congr 1
 exact Bool.eq_iff_iff.2 (hb.trans (ht s).2.symm)
def z0 : Sv := ⟨0, 0, [], false, false, false, [], []⟩
def findS (l : List Sv) (D : List Int) (s : List UInt8) : Sv × List UInt8 × Nat :=
 if (Ul.nU s).2 ≠ 0 then (z0, [], (Ul.nU s).2) else if 100 < (Ul.nU s).1.length then (z0, [], 2)
 else match D.find? (fun d => (mtch (l.getD d.toNat z0).urls (Ul.nU s).1).1) with
  | none => (z0, [], 31)
  | some d => (l.getD d.toNat z0, (Ul.nU s).1, 0)
def right (l : List Sv) : Prop := ∀ s ∈ l, (∃ Q, cmp s.urls = .ok Q) ∧ ∃ Q, cmp s.calls = .ok Q
theorem find_at {α : Type} {p : α → Bool} : ∀ {D : List α} {j : Nat} {d : α}, (∀ (q : Nat) e, q < j → D[q]? = some e → p e = false) → D[j]? = some d → p d = true → D.find? p = some d
 | [], _, _, _, h, _ => by simp at h
 | a :: D, 0, d, _, h, hp => by simp at h; subst h; rw [List.find?_cons, hp]
 | a :: D, j + 1, d, hn, h, hp => by
  have h0 := hn 0 a (by omega) rfl
  rw [List.find?_cons, h0]
  exact find_at (j := j) (fun q e hq he => hn (q + 1) e (by omega) (by simpa using he)) (by simpa using h) hp
theorem find_no {α : Type} {p : α → Bool} {D : List α} (h : ∀ (q : Nat) e, D[q]? = some e → p e = false) : D.find? p = none := by
 rw [List.find?_eq_none]
 intro x hx
 obtain ⟨q, hq⟩ := List.mem_iff_getElem?.1 hx
 rw [h q x hq]; decide
theorem pick8 {I : Im} {a : Option Addr} {L : List (List Value)} {l : List Sv} (h : SvsIn I a L l) {D : List Int} (hD : ∀ d ∈ D, 0 ≤ d ∧ d < l.length) : ∀ c ∈ pickR L D, c.length = 8 := fun c hc => by
 obtain ⟨d, hd, rfl⟩ := List.mem_map.1 hc
 obtain ⟨h0, h1⟩ := hD d hd
 obtain ⟨p, c, _, h2, _, ra, rc, rfl, _⟩ := h.2 d.toNat _ (List.getElem?_eq_getElem (by omega))
 rw [List.getD_eq_getElem?_getD, h2]
 rfl
theorem refFind_any (a : Option Addr) (cap : Nat) (L : List (List Value)) (l : List Sv) (hln : l.length ≤ 100000) (hsm : ∀ v ∈ ords l, v < 18446744073709551616) (hright : right l) (s : List UInt8) (hs : s.length ≤ 1000000) (B w : World) (I : Im) (hl : SvsIn I a L l) (As : List Assn) (hS : Sat B w I As) :
  Calls Tryz.prog 20 [.slice a l.length cap, S s].toArray w (Ret fun v w' => ∃ J u c n e, Le I J ∧ v = .tuple #[.agg (List.toArray c), S n, I64 ((e : Nat) : Int)] ∧ SvAt J u c ∧ (∀ D, Srt.Ord (kx (ords l)) l.length D → findS l D s = (u, n, e)) ∧ Sat B w' J As) := by
 refine calls Tryz.func20 rfl Tryz.ntmps20 rfl ?_
 refine WC.seq ?_
 refine WC.region ?_
 refine WL.allocA (cs := [_, _, _, _, _, _, _, _]) hS Tryz.zeroValue37 rfl ?_
 clear hS; intro b4 w hS
 refine WL.val (.assign (.of rfl)) rfl ?_
 refine WL.val (.assign (.of rfl)) rfl ?_
 refine WL.nil ?_
 refine WC.seq ?_
 refine WC.region ?_
 refine WL.val (.move (.of rfl)) rfl ?_
 refine WL.call Tryz.func15 rfl (evs_cons (.of rfl) evs_nil) rfl (refUNormal_any s hs B _ I _ hS) ?_
 clear hS
 rintro _ w ⟨rfl, hS⟩
 refine WL.val (.move (.of rfl)) rfl ?_
 refine WL.val (.extract (.of rfl) rfl) rfl ?_
 refine WL.val (.extract (.of rfl) rfl) rfl ?_
 refine WL.val (.assign (.of rfl)) rfl ?_
 refine WL.val (.assign (.of rfl)) rfl ?_
 refine WL.nil ?_
 refine WC.seq ?_
 refine WC.seq ?_
 refine WC.region ?_
 refine WL.val (.move (.of rfl)) rfl ?_
 refine WL.val (.neq (.of rfl) (.of rfl)) rfl ?_
 refine WL.nil ?_
 refine WC.cond rfl (fun hb18 => ?_) (fun hb18 => ?_)
 ·
  have hc18 := hb18; try simp only [Gk.cs0] at hc18
  refine WC.seq ?_
  refine WC.region ?_
  refine WL.val (.build (cs := [_, _, _, _, _, _, _, _]) parts_nil bld37_20 rfl) rfl ?_
  refine WL.val (.move (.of rfl)) rfl ?_
  first | refine WL.stA hS (k := 0) rfl (.of rfl) (.of rfl) rfl Tryz.sizeOf37 rfl (by simp) ?_
  clear hS; intro w hS; try dsimp only [List.set] at hS
  try simp only [List.take_zero, List.nil_append, List.append_nil, List.drop_succ_cons, List.drop_zero, List.drop_nil, Nat.zero_add] at hS
  refine WL.val (.assign (.of rfl)) rfl ?_
  refine WL.val (.assign (.of rfl)) rfl ?_
  refine WL.nil ?_
  refine WC.ret ?_
  first | refine ret3c (b := _) (cs := [_, _, _, _, _, _, _, _]) Tryz.results20 hS (k := 0) rfl Tryz.isAgg37 Tryz.sizeOf37 rfl rfl rfl rfl ?_
  exact ⟨_, rfl, I, z0, _, _, _, Le.refl _, rfl, ⟨none, 0, rfl, Nat.le_refl _, RS.nil _ _⟩, fun D2 hD2 => by rw [findS, if_pos (by omega)]; try rfl, (hS.drop (k := 0) rfl)⟩
 ·
  have hc18 := hb18; try simp only [Gk.cs0] at hc18
  refine WC.skip ?_
  refine WC.seq ?_
  refine WC.seq ?_
  refine WC.region ?_
  refine WL.val (.move (.of rfl)) rfl ?_
  refine WL.val (.len (.of rfl) Tryz.underlying9) rfl ?_
  refine WL.val (.gtr (.of rfl) (.of rfl)) rfl ?_
  refine WL.nil ?_
  refine WC.cond rfl (fun hb23 => ?_) (fun hb23 => ?_)
  ·
   have hc23 := hb23; try simp only [Gk.cs0] at hc23
   refine WC.seq ?_
   refine WC.region ?_
   refine WL.val (.build (cs := [_, _, _, _, _, _, _, _]) parts_nil bld37_20 rfl) rfl ?_
   first | refine WL.stA hS (k := 0) rfl (.of rfl) (.of rfl) rfl Tryz.sizeOf37 rfl (by simp) ?_
   clear hS; intro w hS; try dsimp only [List.set] at hS
   try simp only [List.take_zero, List.nil_append, List.append_nil, List.drop_succ_cons, List.drop_zero, List.drop_nil, Nat.zero_add] at hS
   refine WL.val (.assign (.of rfl)) rfl ?_
   refine WL.val (.assign (.of rfl)) rfl ?_
   refine WL.nil ?_
   refine WC.ret ?_
   first | refine ret3c (b := _) (cs := [_, _, _, _, _, _, _, _]) Tryz.results20 hS (k := 0) rfl Tryz.isAgg37 Tryz.sizeOf37 rfl rfl rfl rfl ?_
   exact ⟨_, rfl, I, z0, _, _, _, Le.refl _, rfl, ⟨none, 0, rfl, Nat.le_refl _, RS.nil _ _⟩, fun D2 hD2 => by rw [findS, if_neg (by omega), if_pos (by omega)]; try rfl, (hS.drop (k := 0) rfl)⟩
  ·
   have hc23 := hb23; try simp only [Gk.cs0] at hc23
   refine WC.skip ?_
   refine WC.seq ?_
   refine WC.region ?_
   refine WL.val (.move (.of rfl)) rfl ?_
   refine WL.call Tryz.func13 rfl (evs_cons (.of rfl) evs_nil) rfl (All_any a cap L l hln hsm B _ I hl _ hS) ?_
   clear hS
   rintro _ w ⟨J, D, hJ, hD, hS⟩
   refine WL.val (.assign (.of rfl)) rfl ?_
   refine WL.nil ?_
   refine WC.seq ?_
   refine WC.seq ?_
   obtain ⟨va, vc, rfl, hvc, _⟩ := hS.vecSlice (k := 0) rfl
   obtain ⟨J2, hJ2, hAR, hS2⟩ := hS.freezeVec (k := 0) rfl
   clear hS
   have hS := hS2
   clear hS2
   try dsimp only [List.eraseIdx] at hS
   replace hJ := Le.trans hJ hJ2
   have hDl := hD.len
   have hDm : ∀ d ∈ D, 0 ≤ d ∧ d < l.length := fun d hd => Srt.upto_mem.1 (hD.2.mem_iff.1 hd)
   have h8 := pick8 hl hDm
   refine WC.region ?_
   refine WL.val (.assign (.of rfl)) rfl ?_
   refine WL.nil ?_
   refine WC.block ?_
   refine WC.loop (σ := Nat × Im) (fun ⟨j, J3⟩ => [(4, ptr b4 0), (7, S (Ul.nU s).1), (9, .slice va l.length vc), (10, I64 (j : Nat))]) (fun ⟨j, J3⟩ w => j ≤ l.length ∧ (∀ (q : Nat) e, q < j → D[q]? = some e → (mtch (l.getD e.toNat z0).urls (Ul.nU s).1).1 = false) ∧ Le J2 J3 ∧ Sat B w J3 (blk b4 [I64 0, F64 0, S [], .bool false, .bool false, .bool false, S [], .slice none 0 0] 37 :: As)) (fun ⟨j, J3⟩ => l.length - j) (0, J2) ⟨rfl, rfl, rfl, rfl, trivial⟩ ⟨Nat.zero_le _, fun _ _ h => absurd h (by omega), Le.refl _, hS⟩ ?_
   rintro ⟨j, J3⟩ w ⟨hj, hno, hJ3, hS⟩
   change WC _ _ _ _ [(4, ptr b4 0), (7, S (Ul.nU s).1), (9, .slice va l.length vc), (10, I64 (j : Nat))] w
   refine WC.seq ?_
   refine WC.seq ?_
   refine WC.region ?_
   refine WL.val (.move (.of rfl)) rfl ?_
   refine WL.val (.move (.of rfl)) rfl ?_
   refine WL.val (.lenSlice (.of rfl) Tryz.underlying22) rfl ?_
   refine WL.val (.lss (.of rfl) (.of rfl)) rfl ?_
   refine WL.nil ?_
   refine WC.cond rfl (fun hb30 => ?_) (fun hb30 => ?_)
   ·
    have hc30 := hb30; try simp only [Gk.cs0] at hc30
    refine WC.skip ?_
    refine WC.seq ?_
    refine WC.block ?_
    refine WC.seq ?_
    obtain ⟨d, hd⟩ : ∃ d, D[j]? = some d := ⟨_, List.getElem?_eq_getElem (by omega)⟩
    have hdr := hDm d (List.mem_of_getElem? hd)
    obtain ⟨u, hu⟩ : ∃ u, l[d.toNat]? = some u := ⟨_, List.getElem?_eq_getElem (by omega)⟩
    obtain ⟨_, c, _, hc, _, ra, rc, rfl, hrc, hr⟩ := hl.2 d.toNat u hu
    obtain ⟨p, rfl, hp⟩ := hAR.2 (by omega)
    have hpk : (pickR L D)[j]? = some (svCells u ra rc) := by unfold pickR; rw [List.getElem?_map, hd]; simp [List.getD_eq_getElem?_getD, hc]
    have hx := at_take ((hp.mono hJ3).add (j * 8)) 8
    rw [flat_piece _ h8 j _ hpk] at hx
    unfold svCells at hx
    have hgu : l.getD d.toNat z0 = u := by rw [List.getD_eq_getElem?_getD, hu]; rfl
    obtain ⟨hru, hrc2⟩ := hright u (List.mem_of_getElem? hu)
    refine WC.region ?_
    refine WL.val (.move (.of rfl)) rfl ?_
    refine WL.val (.move (.of rfl)) rfl ?_
    first | refine WL.val (.indexAddr (.of rfl) (.of rfl) (by omega) (by omega) Tryz.underlying22 Tryz.sizeOf37) rfl ?_ | refine WL.val (.indexAddrI (.of rfl) (.of rfl) (by omega) (by omega) Tryz.underlying22 Tryz.sizeOf37) rfl ?_
    first | refine WL.val (.fieldAddr 2 (.of rfl) Tryz.underlying37 rfl rfl Tryz.sizeOf9 rfl) rfl ?_ | refine WL.val (.fieldAddrI 2 (.of rfl) Tryz.underlying37 rfl rfl Tryz.sizeOf9 rfl) rfl ?_
    first | refine WL.val (.ld (.of rfl) hS (k := 0) rfl Tryz.isAgg9 rfl) rfl ?_ | refine WL.val (.ldI (.of rfl) hS (At.add hx _) Tryz.isAgg9 rfl) rfl ?_
    refine WL.val (.move (.of rfl)) rfl ?_
    refine WL.call Tryz.func42 rfl (evs_cons (.of rfl) (evs_cons (.of rfl) evs_nil)) rfl (refMatch_e u.urls _ hru (by omega) B _ J3 _ hS) ?_
    clear hS
    rintro _ w ⟨J4, rfl, hJ4, hS⟩
    replace hx := hx.mono hJ4
    refine WL.val (.assign (.of rfl)) rfl ?_
    refine WL.nil ?_
    refine WC.seq ?_
    refine WC.region ?_
    refine WL.val (.move (.of rfl)) rfl ?_
    refine WL.nil ?_
    refine WC.cond rfl (fun hb40 => ?_) (fun hb40 => ?_)
    ·
     have hc40 := hb40; try simp only [Gk.cs0] at hc40
     refine WC.seq ?_
     refine WC.region ?_
     refine WL.val (.move (.of rfl)) rfl ?_
     refine WL.val (.move (.of rfl)) rfl ?_
     first | refine WL.val (.indexAddr (.of rfl) (.of rfl) (by omega) (by omega) Tryz.underlying22 Tryz.sizeOf37) rfl ?_ | refine WL.val (.indexAddrI (.of rfl) (.of rfl) (by omega) (by omega) Tryz.underlying22 Tryz.sizeOf37) rfl ?_
     first | refine WL.val (.ldsW (cs := [_, _, _, _, _, _, _, _]) (.of rfl) hS (k := 0) rfl Tryz.isAgg37 Tryz.sizeOf37 rfl) rfl ?_ | refine WL.val (.lds (vs := [_, _, _, _, _, _, _, _]) (.of rfl) hS (k := 0) rfl Tryz.isAgg37 Tryz.sizeOf37 rfl (fun _ _ h => h)) rfl ?_ | refine WL.val (.ldsI (.of rfl) hS hx Tryz.isAgg37 Tryz.sizeOf37 rfl (fun _ _ h => h)) rfl ?_ | refine WL.val (.ldsI (.of rfl) hS (At.add hx _) Tryz.isAgg37 Tryz.sizeOf37 rfl (fun _ _ h => h)) rfl ?_
     refine WL.val (.move (.of rfl)) rfl ?_
     first | refine WL.stA hS (k := 0) rfl (.of rfl) (.of rfl) rfl Tryz.sizeOf37 rfl (by simp) ?_
     clear hS; intro w hS; try dsimp only [List.set] at hS
     try simp only [List.take_zero, List.nil_append, List.append_nil, List.drop_succ_cons, List.drop_zero, List.drop_nil, Nat.zero_add] at hS
     refine WL.val (.assign (.of rfl)) rfl ?_
     refine WL.val (.assign (.of rfl)) rfl ?_
     refine WL.nil ?_
     refine WC.ret ?_
     first | refine ret3c (b := _) (cs := [_, _, _, _, _, _, _, _]) Tryz.results20 hS (k := 0) rfl Tryz.isAgg37 Tryz.sizeOf37 rfl rfl rfl rfl ?_
     exact ⟨_, rfl, J4, u, _, _, _, Le.trans hJ (Le.trans hJ3 hJ4), rfl, ⟨ra, rc, rfl, hrc, hr.mono (Le.trans hJ (Le.trans hJ3 hJ4))⟩, fun D2 hD2 => by rw [← hD.unique hD2, findS, if_neg (by omega), if_neg (by omega), find_at hno hd (by rw [hgu]; exact hb40)]; simp only; rw [hgu]; try rfl, (hS.drop (k := 0) rfl)⟩
    ·
     have hc40 := hb40; try simp only [Gk.cs0] at hc40
     refine WC.skip ?_
     refine WC.region ?_
     refine WL.val (.move (.of rfl)) rfl ?_
     refine WL.val (.add (.of rfl) (.of rfl) ⟨by omega, by omega⟩) rfl ?_
     refine WL.val (.assign (.of rfl)) rfl ?_
     refine WL.nil ?_
     refine ⟨(j + 1, J4), ⟨rfl, rfl, rfl, rfl, trivial⟩, ⟨by (try dsimp only); omega, fun q e hq he => ?_, Le.trans hJ3 hJ4, hS⟩, by (try dsimp only); omega⟩
     rcases Nat.lt_or_ge q j with h1 | h1
     ·exact hno q e h1 he
     ·have e2 : q = j := by (try dsimp only at hq); omega
      subst e2
      rw [hd] at he; cases he
      rw [hgu]; exact hb40
   ·
    have hc30 := hb30; try simp only [Gk.cs0] at hc30
    refine WC.exit ?_
    refine WC.seq ?_
    refine WC.region ?_
    refine WL.val (.build (cs := [_, _, _, _, _, _, _, _]) parts_nil bld37_20 rfl) rfl ?_
    first | refine WL.stA hS (k := 0) rfl (.of rfl) (.of rfl) rfl Tryz.sizeOf37 rfl (by simp) ?_
    clear hS; intro w hS; try dsimp only [List.set] at hS
    try simp only [List.take_zero, List.nil_append, List.append_nil, List.drop_succ_cons, List.drop_zero, List.drop_nil, Nat.zero_add] at hS
    refine WL.val (.assign (.of rfl)) rfl ?_
    refine WL.val (.assign (.of rfl)) rfl ?_
    refine WL.nil ?_
    refine WC.ret ?_
    first | refine ret3c (b := _) (cs := [_, _, _, _, _, _, _, _]) Tryz.results20 hS (k := 0) rfl Tryz.isAgg37 Tryz.sizeOf37 rfl rfl rfl rfl ?_
    exact ⟨_, rfl, J3, z0, _, _, _, Le.trans hJ hJ3, rfl, ⟨none, 0, rfl, Nat.le_refl _, RS.nil _ _⟩, fun D2 hD2 => by rw [← hD.unique hD2, findS, if_neg (by omega), if_neg (by omega), find_no (fun q e he => hno q e (by have := (List.getElem?_eq_some_iff.1 he).1; omega) he)]; try rfl, (hS.drop (k := 0) rfl)⟩
end Go.Proofs.YtchgkcbloeoopaaGreatDoor
namespace Go.Proofs.YtchgkcbloeoopaaGreatDoor
open Gk Pat
set_option linter.unusedVariables false
set_option linter.unusedSimpArgs false
theorem tail_sch (sch host : List UInt8) (port : Nat) (r : List UInt8) (h : (Ul.tailU sch host port r).2 = 0) : (Ul.tailU sch host port r).1.sch = sch := by
 unfold Ul.tailU at h ⊢
 split
 ·rename_i e; rw [e] at h; cases h
 ·rename_i p e
  rw [e] at h
  simp only at h ⊢
  split
  ·rename_i e2; rw [e2] at h; cases h
  ·rfl
theorem pU_sch (s : List UInt8) (h : (Ul.pU s).2 = 0) : (Ul.pU s).1.sch = Ul.http ∨ (Ul.pU s).1.sch = Ul.https := by
 unfold Ul.pU at h ⊢
 by_cases h1 : 2000 < s.length
 ·rw [if_pos h1] at h; cases h
 ·rw [if_neg h1] at h ⊢
  cases hs : Ul.schemeOf s with
  | none => rw [hs] at h; cases h
  | some x =>
   obtain ⟨sch, r⟩ := x
   rw [hs] at h
   have hsch : sch = Ul.http ∨ sch = Ul.https := by
    unfold Ul.schemeOf at hs
    split at hs
    ·injection hs with hs; injection hs with e1 _; exact .inl e1.symm
    ·split at hs
     ·injection hs with hs; injection hs with e1 _; exact .inr e1.symm
     ·cases hs
   simp only at h ⊢
   by_cases hh : Ul.hostOk (Ul.hostOf r) = true
   ·rw [if_pos hh] at h ⊢
    unfold Ul.behind at h ⊢
    split
    ·rename_i ht
     rw [if_pos ht] at h
     split
     ·rename_i hp
      rw [if_pos hp] at h
      rw [tail_sch _ _ _ _ h]; exact hsch
     ·rename_i hp
      rw [if_neg hp] at h; cases h
    ·rename_i ht
     rw [if_neg ht] at h
     rw [tail_sch _ _ _ _ h]; exact hsch
   ·rw [if_neg hh] at h; cases h
theorem nU_ok {s : List UInt8} (h : (Ul.nU s).2 = 0) : (Ul.pU s).2 = 0 ∧ (Ul.nU s).1 = Ul.strU (Ul.pU s).1 := by
 unfold Ul.nU at h ⊢
 by_cases h1 : (Ul.pU s).2 = 0
 ·rw [if_pos h1]; exact ⟨h1, rfl⟩
 ·rw [if_neg h1] at h; exact absurd h h1
theorem nU_long {s : List UInt8} (h : (Ul.nU s).2 = 0) : 7 ≤ (Ul.nU s).1.length := by
 obtain ⟨h1, h2⟩ := nU_ok h
 rw [h2, Ul.strU, Ul.origin]
 rcases pU_sch s h1 with e | e <;> rw [e] <;> simp only [List.length_append, List.length_cons, List.length_nil, Ul.http, Ul.https] <;> omega
theorem len5 {s : List UInt8} (h : ((((Ul.nU s).2 : Nat) : Int) != 0 || decide (100 < ((Ul.nU s).1.length : Int))) = false) : (5 : Int) ≤ ((Ul.nU s).1.length : Int) := by
 simp only [Bool.or_eq_false_iff, bne_eq_false_iff_eq] at h
 have := nU_long (s := s) (by omega)
 omega
def callS (l : List Sv) (id : Int) (s : List UInt8) : List UInt8 × Bool :=
 if (((((Ul.nU s).2 : Int) != 0) || decide (100 < ((Ul.nU s).1.length : Int))) || !((Ul.nU s).1.take 5 == Ul.https)) = true then ([], false)
 else if l.any (fun t => t.id == id && (mtch t.calls (Ul.nU s).1).1) = true then ((Ul.nU s).1, true) else ([], false)
theorem refCalls_any (a : Option Addr) (cap : Nat) (L : List (List Value)) (l : List Sv) (hln : l.length ≤ 100000) (hright : right l) (id : Int) (s : List UInt8) (hs : s.length ≤ 1000000) (B w : World) (I : Im) (hl : SvsIn I a L l) (As : List Assn) (hS : Sat B w I As) :
  Calls Tryz.prog 22 [.slice a l.length cap, I64 id, S s].toArray w (Ret fun v w' => ∃ J, Le I J ∧ v = .tuple #[S (callS l id s).1, .bool (callS l id s).2] ∧ Sat B w' J As) := by
 refine calls Tryz.func22 rfl Tryz.ntmps22 rfl ?_
 refine WC.seq ?_
 refine WC.region ?_
 refine WL.val (.assign (.of rfl)) rfl ?_
 refine WL.val (.assign (.of rfl)) rfl ?_
 refine WL.nil ?_
 refine WC.seq ?_
 refine WC.region ?_
 refine WL.val (.move (.of rfl)) rfl ?_
 refine WL.call Tryz.func15 rfl (evs_cons (.of rfl) evs_nil) rfl (refUNormal_any s hs B _ I _ hS) ?_
 clear hS
 rintro _ w ⟨rfl, hS⟩
 refine WL.val (.move (.of rfl)) rfl ?_
 refine WL.val (.extract (.of rfl) rfl) rfl ?_
 refine WL.val (.extract (.of rfl) rfl) rfl ?_
 refine WL.val (.assign (.of rfl)) rfl ?_
 refine WL.val (.assign (.of rfl)) rfl ?_
 refine WL.nil ?_
 refine WC.seq ?_
 refine WC.seq ?_
 have hnl := fun h => nU_long (s := s) h
 refine WC.region ?_
 refine WL.val (.move (.of rfl)) rfl ?_
 refine WL.val (.neq (.of rfl) (.of rfl)) rfl ?_
 refine WL.val (.move (.of rfl)) rfl ?_
 refine WL.gval rfl rfl (fun hg1 => (.move (.of rfl))) rfl ?_
 refine WL.gval rfl rfl (fun hg1 => (.len (.gd hg1 rfl) Tryz.underlying9)) rfl ?_
 refine WL.gval rfl rfl (fun hg1 => (.gtr (.gd hg1 rfl) (.of rfl))) rfl ?_
 refine WL.val (.por (.of rfl) (.of rfl) (.of rfl)) rfl ?_
 refine WL.val (.move (.of rfl)) rfl ?_
 refine WL.gval rfl rfl (fun hg1 => (.move (.of rfl))) rfl ?_
 refine WL.gval rfl rfl (fun hg1 => .subTo (.gd hg1 rfl) (.of rfl) (by omega) (len5 hg1) Tryz.underlying9) rfl ?_
 refine WL.gval rfl rfl (fun hg1 => (.nes (.gd hg1 rfl) (.of rfl))) rfl ?_
 refine WL.val (.por (.of rfl) (.of rfl) (.of rfl)) rfl ?_
 refine WL.nil ?_
 refine WC.cond rfl (fun hb28 => ?_) (fun hb28 => ?_)
 ·
  have hc28 := hb28; try simp only [Gk.cs0] at hc28
  refine WC.seq ?_
  refine WC.region ?_
  refine WL.val (.assign (.of rfl)) rfl ?_
  refine WL.val (.assign (.of rfl)) rfl ?_
  refine WL.nil ?_
  refine WC.ret ?_
  refine ret2 Tryz.results22 rfl rfl ?_
  exact ⟨_, rfl, I, Le.refl _, by rw [callS, if_pos (by simpa [Ul.https] using hb28)], hS⟩
 ·
  have hc28 := hb28; try simp only [Gk.cs0] at hc28
  refine WC.skip ?_
  refine WC.seq ?_
  refine WC.seq ?_
  refine WC.region ?_
  refine WL.val (.assign (.of rfl)) rfl ?_
  refine WL.nil ?_
  refine WC.block ?_
  refine WC.loop (σ := Nat × Im) (fun ⟨i, J⟩ => [(0, .slice a l.length cap), (1, I64 id), (8, S (Ul.nU s).1), (10, I64 (i : Nat))]) (fun ⟨i, J⟩ w => i ≤ l.length ∧ (∀ (q : Nat) t, q < i → l[q]? = some t → (t.id == id && (mtch t.calls (Ul.nU s).1).1) = false) ∧ Le I J ∧ Sat B w J As) (fun ⟨i, J⟩ => l.length - i) (0, I) ⟨rfl, rfl, rfl, rfl, trivial⟩ ⟨Nat.zero_le _, fun _ _ h => absurd h (by omega), Le.refl _, hS⟩ ?_
  rintro ⟨i, J⟩ w ⟨hi, hno, hJ, hS⟩
  change WC _ _ _ _ [(0, .slice a l.length cap), (1, I64 id), (8, S (Ul.nU s).1), (10, I64 (i : Nat))] w
  refine WC.seq ?_
  refine WC.seq ?_
  refine WC.region ?_
  refine WL.val (.move (.of rfl)) rfl ?_
  refine WL.val (.move (.of rfl)) rfl ?_
  refine WL.val (.lenSlice (.of rfl) Tryz.underlying22) rfl ?_
  refine WL.val (.lss (.of rfl) (.of rfl)) rfl ?_
  refine WL.nil ?_
  refine WC.cond rfl (fun hb32 => ?_) (fun hb32 => ?_)
  ·
   have hc32 := hb32; try simp only [Gk.cs0] at hc32
   refine WC.skip ?_
   refine WC.seq ?_
   refine WC.block ?_
   refine WC.seq ?_
   obtain ⟨u, hu⟩ : ∃ u, l[i]? = some u := ⟨_, List.getElem?_eq_getElem (by omega)⟩
   obtain ⟨p, ra, rc, rfl, hx, hrc, hr⟩ := hl.svs i u hu
   replace hx := hx.mono hJ
   unfold svCells at hx
   obtain ⟨_, hrc2⟩ := hright u (List.mem_of_getElem? hu)
   refine WC.region ?_
   refine WL.val (.move (.of rfl)) rfl ?_
   refine WL.val (.move (.of rfl)) rfl ?_
   first | refine WL.val (.indexAddr (.of rfl) (.of rfl) (by omega) (by omega) Tryz.underlying22 Tryz.sizeOf37) rfl ?_ | refine WL.val (.indexAddrI (.of rfl) (.of rfl) (by omega) (by omega) Tryz.underlying22 Tryz.sizeOf37) rfl ?_
   first | refine WL.val (.fieldAddr 0 (.of rfl) Tryz.underlying37 rfl rfl Tryz.sizeOf3 rfl) rfl ?_ | refine WL.val (.fieldAddrI 0 (.of rfl) Tryz.underlying37 rfl rfl Tryz.sizeOf3 rfl) rfl ?_
   first | refine WL.val (.ldI (.of rfl) hS (At.add hx _) Tryz.isAgg3 rfl) rfl ?_
   refine WL.val (.move (.of rfl)) rfl ?_
   refine WL.val (.eql (.of rfl) (.of rfl)) rfl ?_
   refine WL.nil ?_
   refine WC.cond rfl (fun hb41 => ?_) (fun hb41 => ?_)
   ·
    have hc41 := hb41; try simp only [Gk.cs0] at hc41
    refine WC.seq ?_
    refine WC.region ?_
    refine WL.val (.move (.of rfl)) rfl ?_
    refine WL.val (.move (.of rfl)) rfl ?_
    first | refine WL.val (.indexAddr (.of rfl) (.of rfl) (by omega) (by omega) Tryz.underlying22 Tryz.sizeOf37) rfl ?_ | refine WL.val (.indexAddrI (.of rfl) (.of rfl) (by omega) (by omega) Tryz.underlying22 Tryz.sizeOf37) rfl ?_
    first | refine WL.val (.fieldAddr 6 (.of rfl) Tryz.underlying37 rfl rfl Tryz.sizeOf9 rfl) rfl ?_ | refine WL.val (.fieldAddrI 6 (.of rfl) Tryz.underlying37 rfl rfl Tryz.sizeOf9 rfl) rfl ?_
    first | refine WL.val (.ldI (.of rfl) hS (At.add hx _) Tryz.isAgg9 rfl) rfl ?_
    refine WL.val (.move (.of rfl)) rfl ?_
    refine WL.call Tryz.func42 rfl (evs_cons (.of rfl) (evs_cons (.of rfl) evs_nil)) rfl (refMatch_e u.calls _ hrc2 (by have := hc28; omega) B _ J _ hS) ?_
    clear hS
    rintro _ w ⟨J2, rfl, hJ2, hS⟩
    refine WL.val (.assign (.of rfl)) rfl ?_
    refine WL.nil ?_
    refine WC.seq ?_
    refine WC.region ?_
    refine WL.val (.move (.of rfl)) rfl ?_
    refine WL.nil ?_
    refine WC.cond rfl (fun hb49 => ?_) (fun hb49 => ?_)
    ·
     have hc49 := hb49; try simp only [Gk.cs0] at hc49
     refine WC.seq ?_
     refine WC.region ?_
     refine WL.val (.move (.of rfl)) rfl ?_
     refine WL.val (.assign (.of rfl)) rfl ?_
     refine WL.val (.assign (.of rfl)) rfl ?_
     refine WL.nil ?_
     refine WC.ret ?_
     refine ret2 Tryz.results22 rfl rfl ?_
     refine ⟨_, rfl, J2, Le.trans hJ hJ2, ?_, hS⟩
     rw [callS, if_neg (by rw [Bool.not_eq_true]; simpa [Ul.https] using hb28), if_pos]
     rw [List.any_eq_true]
     exact ⟨u, List.mem_of_getElem? hu, by rw [hb49, Bool.and_true]; exact hb41⟩
    ·
     have hc49 := hb49; try simp only [Gk.cs0] at hc49
     refine WC.skip ?_
     refine WC.region ?_
     refine WL.val (.move (.of rfl)) rfl ?_
     refine WL.val (.add (.of rfl) (.of rfl) ⟨by omega, by omega⟩) rfl ?_
     refine WL.val (.assign (.of rfl)) rfl ?_
     refine WL.nil ?_
     refine ⟨(i + 1, J2), ⟨rfl, rfl, rfl, rfl, trivial⟩, ⟨by (try dsimp only); omega, fun q t hq ht => ?_, Le.trans hJ hJ2, hS⟩, by (try dsimp only); omega⟩
     rcases Nat.lt_or_ge q i with h1 | h1
     ·exact hno q t h1 ht
     ·have e2 : q = i := by (try dsimp only at hq); omega
      subst e2
      rw [hu] at ht; cases ht
      rw [hb49, Bool.and_false]
   ·
    have hc41 := hb41; try simp only [Gk.cs0] at hc41
    refine WC.skip ?_
    refine WC.region ?_
    refine WL.val (.move (.of rfl)) rfl ?_
    refine WL.val (.add (.of rfl) (.of rfl) ⟨by omega, by omega⟩) rfl ?_
    refine WL.val (.assign (.of rfl)) rfl ?_
    refine WL.nil ?_
    refine ⟨(i + 1, J), ⟨rfl, rfl, rfl, rfl, trivial⟩, ⟨by (try dsimp only); omega, fun q t hq ht => ?_, hJ, hS⟩, by (try dsimp only); omega⟩
    rcases Nat.lt_or_ge q i with h1 | h1
    ·exact hno q t h1 ht
    ·have e2 : q = i := by (try dsimp only at hq); omega
     subst e2
     rw [hu] at ht; cases ht
     rw [show (u.id == id) = false from hb41]; rfl
  ·
   have hc32 := hb32; try simp only [Gk.cs0] at hc32
   refine WC.exit ?_
   refine WC.seq ?_
   refine WC.region ?_
   refine WL.val (.assign (.of rfl)) rfl ?_
   refine WL.val (.assign (.of rfl)) rfl ?_
   refine WL.nil ?_
   refine WC.ret ?_
   refine ret2 Tryz.results22 rfl rfl ?_
   refine ⟨_, rfl, J, hJ, ?_, hS⟩
   rw [callS, if_neg (by rw [Bool.not_eq_true]; simpa [Ul.https] using hb28), if_neg]
   rw [Bool.not_eq_true, List.any_eq_false]
   intro t ht
   obtain ⟨q, hq⟩ := List.mem_iff_getElem?.1 ht
   rw [hno q t (by have := (List.getElem?_eq_some_iff.1 hq).1; omega) hq]
   decide
end Go.Proofs.YtchgkcbloeoopaaGreatDoor
namespace Go.Proofs.YtchgkcbloeoopaaGreatDoor
open Gk Pat
set_option linter.unusedVariables false
set_option linter.unusedSimpArgs false
theorem Clone_any (a : Option Addr) (c : Nat) (l : List (List UInt8)) (hl : l.length ≤ 1000000) (B w : World) (I : Im) (hr : RS I a 1 l.length (l.map S)) (As : List Assn) (hS : Sat B w I As) :
  Calls Tryz.prog 51 [.slice a l.length c].toArray w (Ret fun v w' => ∃ J ra rc, v = .slice ra l.length rc ∧ Le I J ∧ l.length ≤ rc ∧ RS J ra 1 l.length (l.map S) ∧ Sat B w' J As) := by
 have fin : ∀ (v : Value) (w' : World) (n : Nat) (xs : List Value), n = l.length → xs = l.map S → Go.RowKit.Below w.heap.size w w' → w'.ownsRow w.heap.size 9 1 v n xs → ∃ J ra rc, v = .slice ra l.length rc ∧ Le I J ∧ l.length ≤ rc ∧ RS J ra 1 l.length (l.map S) ∧ Sat B w' J As := by
  intro v w' n xs hn hx hb ho
  subst hn; subst hx
  have h2 := hS.grownRow hb ho
  obtain ⟨ra, rc, rfl, h3, _⟩ := h2.vecSlice (k := 0) rfl
  obtain ⟨J, hJ, hRS, hS2⟩ := h2.freezeVec (k := 0) rfl
  exact ⟨J, ra, rc, rfl, hJ, h3, hRS, hS2⟩
 cases a with
 | none =>
  have h0 : l = [] := by
   rcases Nat.eq_zero_or_pos l.length with h | h
   ·exact List.eq_nil_of_length_eq_zero h
   ·obtain ⟨p, hp, _⟩ := hr.2 h; cases hp
  subst h0
  refine (Tryz.slices_Clone_string_nil 0 c w).mono fun e w' he => ?_
  obtain ⟨rfl, rfl⟩ := he
  exact ⟨_, rfl, I, none, 0, rfl, Le.refl _, Nat.le_refl _, RS.nil _ _, hS⟩
 | some p =>
  rcases Nat.eq_zero_or_pos l.length with h | h
  ·have h0 := List.eq_nil_of_length_eq_zero h
   subst h0
   refine (Tryz.slices_Clone_string_zero p c w).mono fun e w' he => ?_
   obtain ⟨v', rfl, ho, _, hb⟩ := he
   exact ⟨_, rfl, fin v' w' 0 [] rfl rfl hb ho⟩
  ·obtain ⟨q, hq, hA⟩ := hr.2 h
   injection hq with hq
   subst hq
   obtain ⟨b, off, sp⟩ := p
   have hsp : sp = none := hA.1
   subst hsp
   refine (Tryz.slices_Clone_string b off l.length c (l.map fun x => ⟨x.toArray⟩) w (by rw [List.length_map]; exact Nat.le_refl _) (by omega) (fun j hj => ?_)).mono fun e w' he => ?_
   ·rw [List.length_map] at hj
    have h2 := cell_at hS hA (j := j) (v := S (l[j])) (by rw [List.getElem?_map, List.getElem?_eq_getElem hj]; rfl)
    rw [show (⟨b, off, none⟩ : Addr).add j = ⟨b, off + j, none⟩ from add_ad b off j] at h2
    rw [h2, List.getD_eq_getElem?_getD, List.getElem?_map, List.getElem?_eq_getElem hj]
    rfl
   ·obtain ⟨v', rfl, ho, _, hb⟩ := he
    refine ⟨_, rfl, fin v' w' l.length _ rfl ?_ hb ho⟩
    rw [List.take_of_length_le (by rw [List.length_map]; exact Nat.le_refl _), List.map_map]
    rfl
theorem own_svc (s : Sv) (a : Option Addr) (c : Nat) (hrl : s.rel.length ≤ 1000000) (B w : World) (I : Im) (hr : RS I a 1 s.rel.length (s.rel.map S)) (As : List Assn) (hS : Sat B w I As) :
  Calls Tryz.prog 29 [.agg [I64 s.id, F64 s.ord, S s.urls, .bool s.login, .bool s.proxy, .bool s.back, S s.calls, .slice a s.rel.length c].toArray].toArray w (Ret fun v w' => ∃ J cs, Le I J ∧ v = .agg (List.toArray cs) ∧ SvAt J s cs ∧ Sat B w' J As) := by
 refine calls Tryz.func29 rfl Tryz.ntmps29 rfl ?_
 refine WC.seq ?_
 refine WC.region ?_
 refine WL.boxA (cs := [_, _, _, _, _, _, _, _]) hS (.of rfl) rfl ?_
 clear hS; intro b1 w hS
 refine WL.allocA (cs := [_, _, _, _, _, _, _, _]) hS Tryz.zeroValue37 rfl ?_
 clear hS; intro b2 w hS
 refine WL.nil ?_
 refine WC.seq ?_
 refine WC.region ?_
 first | refine WL.val (.fieldAddr 7 (.of rfl) Tryz.underlying37 rfl rfl Tryz.sizeOf35 rfl) rfl ?_ | refine WL.val (.fieldAddrI 7 (.of rfl) Tryz.underlying37 rfl rfl Tryz.sizeOf35 rfl) rfl ?_
 first | refine WL.val (.ld (.of rfl) hS (k := 0) rfl Tryz.isAgg35 rfl) rfl ?_ | refine WL.val (.ld (.of rfl) hS (k := 1) rfl Tryz.isAgg35 rfl) rfl ?_
 refine WL.call Tryz.func51 rfl (evs_cons (.of rfl) evs_nil) rfl (Clone_any a c s.rel hrl B _ I hr _ hS) ?_
 clear hS
 rintro _ w ⟨J, ra, rc, rfl, hJ, hrc, hrr, hS⟩
 first | refine WL.val (.fieldAddr 7 (.of rfl) Tryz.underlying37 rfl rfl Tryz.sizeOf35 rfl) rfl ?_ | refine WL.val (.fieldAddrI 7 (.of rfl) Tryz.underlying37 rfl rfl Tryz.sizeOf35 rfl) rfl ?_
 first | refine WL.st1 hS (k := 0) rfl (.of rfl) (.of rfl) rfl Tryz.sizeOf35 (by simp) ?_ | refine WL.st1 hS (k := 1) rfl (.of rfl) (.of rfl) rfl Tryz.sizeOf35 (by simp) ?_
 clear hS; intro w hS; try dsimp only [List.set] at hS
 refine WL.nil ?_
 refine WC.seq ?_
 refine WC.region ?_
 first | refine WL.val (.ldsW (cs := [_, _, _, _, _, _, _, _]) (.of rfl) hS (k := 0) rfl Tryz.isAgg37 Tryz.sizeOf37 rfl) rfl ?_ | refine WL.val (.lds (vs := [_, _, _, _, _, _, _, _]) (.of rfl) hS (k := 0) rfl Tryz.isAgg37 Tryz.sizeOf37 rfl (fun _ _ h => h)) rfl ?_ | refine WL.val (.ldsW (cs := [_, _, _, _, _, _, _, _]) (.of rfl) hS (k := 1) rfl Tryz.isAgg37 Tryz.sizeOf37 rfl) rfl ?_ | refine WL.val (.lds (vs := [_, _, _, _, _, _, _, _]) (.of rfl) hS (k := 1) rfl Tryz.isAgg37 Tryz.sizeOf37 rfl (fun _ _ h => h)) rfl ?_
 first | refine WL.stA hS (k := 0) rfl (.of rfl) (.of rfl) rfl Tryz.sizeOf37 rfl (by simp) ?_ | refine WL.stA hS (k := 1) rfl (.of rfl) (.of rfl) rfl Tryz.sizeOf37 rfl (by simp) ?_
 clear hS; intro w hS; try dsimp only [List.set] at hS
 try simp only [List.take_zero, List.nil_append, List.append_nil, List.drop_succ_cons, List.drop_zero, List.drop_nil, Nat.zero_add] at hS
 refine WL.nil ?_
 refine WC.ret ?_
 first | refine ret1c (b := _) (cs := [_, _, _, _, _, _, _, _]) Tryz.results29 hS (k := 0) rfl Tryz.isAgg37 Tryz.sizeOf37 rfl rfl ?_ | refine ret1c (b := _) (cs := [_, _, _, _, _, _, _, _]) Tryz.results29 hS (k := 1) rfl Tryz.isAgg37 Tryz.sizeOf37 rfl rfl ?_
 exact ⟨_, rfl, J, [I64 s.id, F64 s.ord, S s.urls, .bool s.login, .bool s.proxy, .bool s.back, S s.calls, .slice ra s.rel.length rc], hJ, rfl, ⟨ra, rc, rfl, hrc, hrr⟩, (hS.drop (k := 0) rfl).drop (k := 0) rfl⟩
end Go.Proofs.YtchgkcbloeoopaaGreatDoor
namespace Go.Proofs.YtchgkcbloeoopaaGreatDoor
open Gk Pat
set_option linter.unusedVariables false
set_option linter.unusedSimpArgs false
def entCells (s : Sv) (a : Option Addr) (c : Nat) (p q : Addr) : List Value := [I64 s.id, F64 s.ord, S s.urls, .bool s.login, .bool s.proxy, .bool s.back, S s.calls, .slice a s.rel.length c, .pointer (some p), .pointer (some q)]
def EntAt (I : Im) (s : Sv) (l : List Value) : Prop := ∃ a c p q Q R, l = entCells s a c p q ∧ s.rel.length ≤ c ∧ RS I a 1 s.rel.length (s.rel.map S) ∧ cmp s.urls = .ok Q ∧ PatI I p Q s.urls.length ∧ cmp s.calls = .ok R ∧ PatI I q R s.calls.length
def EntsIn (I : Im) (a : Option Addr) (E : List (List Value)) (l : List Sv) : Prop := E.length = l.length ∧ ∀ (i : Nat) (s : Sv), l[i]? = some s → ∃ p c, a = some p ∧ E[i]? = some c ∧ At I (p.add (i * 10)) c ∧ EntAt I s c
def EntsW (w : World) (I : Im) (a : Option Addr) (l : List Sv) : Prop := ∀ (i : Nat) (s : Sv), l[i]? = some s → ∃ p c, a = some p ∧ (∀ (j : Nat) v, c[j]? = some v → w.cell? ((p.add (i * 10)).add j) = some v) ∧ EntAt I s c
theorem EntsIn.now {B w : World} {I : Im} {As : List Assn} {a : Option Addr} {E : List (List Value)} {l : List Sv} (h : EntsIn I a E l) (hS : Sat B w I As) : EntsW w I a l := fun i s hs => by
 obtain ⟨p, c, e, _, h1, h2⟩ := h.2 i s hs
 exact ⟨p, c, e, fun j v hj => cell_at hS h1 hj, h2⟩
theorem ents_vec {B w : World} {I : Im} {As : List Assn} {k T cap : Nat} {a : Option Addr} {E : List (List Value)} {l : List Sv} (hS : Sat B w I As) (hk : As[k]? = some (Vec T 10 (.slice a l.length cap) l.length E.flatten)) (h10 : ∀ c ∈ E, c.length = 10)
  (hE : ∀ (i : Nat) (s : Sv), l[i]? = some s → ∃ c, E[i]? = some c ∧ EntAt I s c) : EntsW w I a l := fun i s hs => by
 obtain ⟨c, hc, he⟩ := hE i s hs
 have hi := (List.getElem?_eq_some_iff.1 hs).1
 obtain ⟨g, cap', rest, hv, _, _, _, _, hS2⟩ := hS.vecOpen hk (by omega)
 injection hv with hv1 hv2 hv3
 have hlk : k < As.length := (List.getElem?_eq_some_iff.1 hk).1
 have hb : w.heap[g]? = some (cellsO (E.flatten ++ rest) T) := hS2.block (k := k) (by simp [hlk, blk])
 refine ⟨⟨g, 0, none⟩, c, hv1, fun j v hj => ?_, he⟩
 have hjl : j < 10 := by
  have h1 := (List.getElem?_eq_some_iff.1 hj).1
  rw [h10 c (List.mem_of_getElem? hc)] at h1
  exact h1
 rw [Addr.add_add, show (⟨g, 0, none⟩ : Addr).add (i * 10 + j) = ad g (0 + (i * 10 + j)) from add_ad g 0 _, Nat.zero_add]
 refine cell_own hb ?_
 have h2 := rowsF_get E h10 i j hjl
 rw [hc] at h2
 have h3 : E.flatten[i * 10 + j]? = some v := h2.trans hj
 rw [List.getElem?_append_left (List.getElem?_eq_some_iff.1 h3).1]
 exact h3
theorem ldsC {P : Program} {n : Nat} {L : Env} {w : World} {ty : TypeId} {pos : String} {af : Array Edge} {g : Option (Nat × Bool)} {t : TypeId} {x : Operand} {d : Option Nat} {p : Addr} {s : Nat} {vs : List Value} (hx : Ev n L x (.pointer (some p))) (hv : ∀ (j : Nat) v, vs[j]? = some v → w.cell? (p.add j) = some v) (ht : ∀ w, (isAgg t).run P w = .ok true w) (hs : ∀ w, (Go.sizeOf t).run P w = .ok s w)
  (hl : vs.length = s) : Ex P n L w ⟨d, .load t x, ty, pos, af, g⟩ (.agg vs.toArray) w := fun a ha => by
 have h := run_loadCells_list (P := P) w p vs hv
 rw [hl] at h
 simp [execOp, hx a ha, Instr.loadAt, Instr.sureAddr, loadVar, ht, hs, h]
def firstI (pr : Sv → Bool) : List Sv → Nat → Int
 | [], _ => -1
 | s :: r, i => if pr s then (i : Int) else firstI pr r (i + 1)
theorem firstI_skip (pr : Sv → Bool) : ∀ (n : Nat) (r : List Sv) (i : Nat), (∀ (j : Nat) s, j < n → r[j]? = some s → pr s = false) → firstI pr r i = firstI pr (r.drop n) (i + min n r.length)
 | 0, r, i, _ => by simp
 | n + 1, [], i, _ => by simp [firstI]
 | n + 1, s :: r, i, h => by
  rw [firstI, if_neg (by rw [h 0 s (by omega) rfl]; decide), firstI_skip pr n r (i + 1) (fun j t hj ht => h (j + 1) t (by omega) (by simpa using ht)), List.drop_succ_cons, List.length_cons]
  congr 1
  omega
theorem firstI_hit {pr : Sv → Bool} {l : List Sv} {i : Nat} {s : Sv} (h : ∀ (j : Nat) t, j < i → l[j]? = some t → pr t = false) (hs : l[i]? = some s) (hp : pr s = true) : firstI pr l 0 = (i : Int) := by
 have hi := (List.getElem?_eq_some_iff.1 hs).1
 rw [firstI_skip pr i l 0 h, Nat.zero_add, Nat.min_eq_left (by omega), List.drop_eq_getElem_cons hi, (List.getElem?_eq_some_iff.1 hs).2, firstI, if_pos hp]
theorem firstI_none {pr : Sv → Bool} {l : List Sv} (h : ∀ (j : Nat) t, l[j]? = some t → pr t = false) : firstI pr l 0 = -1 := by
 rw [firstI_skip pr l.length l 0 (fun j t _ ht => h j t ht), List.drop_length]
 rfl
theorem IndexFunc_any (a : Option Addr) (cap : Nat) (l : List Sv) (hln : l.length ≤ 100000) (pr : Sv → Bool) (fid : FuncId) (fn : Func) (hfn : Tryz.prog.funcs[fid]? = some fn) (hcal : callable fn = true) (capv : List Value) (B w : World) (I : Im) (As : List Assn) (hE : ∀ w, Sat B w I As → EntsW w I a l) (hf : ∀ (s : Sv) (c : List Value), EntAt I s c → ∀ w, Sat B w I As → Calls Tryz.prog fid ([Value.agg c.toArray] ++ capv).toArray w (Ret fun v w' => v = .bool (pr s) ∧ Sat B w' I As)) (hS : Sat B w I As) :
  Calls Tryz.prog 34 [.slice a l.length cap, .func (.func fid) #[] capv.toArray].toArray w (Ret fun v w' => v = I64 (firstI pr l 0) ∧ Sat B w' I As) := by
 refine calls Tryz.func34 rfl Tryz.ntmps34 rfl ?_
 refine WC.seq ?_
 refine WC.region ?_
 refine WL.val (.assign (.of rfl)) rfl ?_
 refine WL.nil ?_
 refine WC.seq ?_
 refine WC.seq ?_
 refine WC.region ?_
 refine WL.val (.move (.of rfl)) rfl ?_
 refine WL.val (.lenSlice (.of rfl) Tryz.underlying60) rfl ?_
 refine WL.val (.move (.of rfl)) rfl ?_
 refine WL.nil ?_
 refine WC.block ?_
 refine WC.loop (σ := Nat) (fun i => [(0, .slice a l.length cap), (1, .func (.func fid) #[] capv.toArray), (7, I64 (l.length : Nat)), (8, I64 (i : Nat))]) (fun i w => i ≤ l.length ∧ (∀ (j : Nat) t, j < i → l[j]? = some t → pr t = false) ∧ Sat B w I As) (fun i => l.length - i) 0 ⟨rfl, rfl, rfl, rfl, trivial⟩ ⟨Nat.zero_le _, fun _ _ h => absurd h (by omega), hS⟩ ?_
 rintro i w ⟨hi, hno, hS⟩
 change WC _ _ _ _ [(0, .slice a l.length cap), (1, .func (.func fid) #[] capv.toArray), (7, I64 (l.length : Nat)), (8, I64 (i : Nat))] w
 refine WC.seq ?_
 refine WC.region ?_
 refine WL.val (.lss (.of rfl) (.of rfl)) rfl ?_
 refine WL.nil ?_
 refine WC.seq ?_
 refine WC.cond rfl (fun hb9 => ?_) (fun hb9 => ?_)
 ·
  have hc9 := hb9; try simp only [Gk.cs0] at hc9
  refine WC.skip ?_
  refine WC.seq ?_
  refine WC.block ?_
  refine WC.seq ?_
  obtain ⟨s, hs⟩ : ∃ s, l[i]? = some s := ⟨_, List.getElem?_eq_getElem (by omega)⟩
  obtain ⟨p, c, rfl, hx, he⟩ := hE w hS i s hs
  have he2 := he
  obtain ⟨ra, rc, pp, qq, Q, R, rfl, _⟩ := he2
  unfold entCells at hx he
  refine WC.region ?_
  refine WL.val (.move (.of rfl)) rfl ?_
  refine WL.val (.assign (.of rfl)) rfl ?_
  refine WL.nil ?_
  refine WC.seq ?_
  refine WC.region ?_
  refine WL.val (.move (.of rfl)) rfl ?_
  refine WL.val (.move (.of rfl)) rfl ?_
  refine WL.val (.move (.of rfl)) rfl ?_
  first | refine WL.val (.indexAddr (.of rfl) (.of rfl) (by omega) (by omega) Tryz.underlying60 Tryz.sizeOf63) rfl ?_ | refine WL.val (.indexAddrI (.of rfl) (.of rfl) (by omega) (by omega) Tryz.underlying60 Tryz.sizeOf63) rfl ?_
  refine WL.val (ldsC (.of rfl) hx Tryz.isAgg63 Tryz.sizeOf63 rfl) rfl ?_
  refine WL.vcall (cap := capv) hfn hcal (.of rfl) (evs_cons (.of rfl) evs_nil) rfl (hf s _ he w hS) ?_
  clear hS
  rintro _ w ⟨rfl, hS⟩
  refine WL.nil ?_
  refine WC.cond rfl (fun hb16 => ?_) (fun hb16 => ?_)
  ·
   have hc16 := hb16; try simp only [Gk.cs0] at hc16
   refine WC.seq ?_
   refine WC.region ?_
   refine WL.val (.move (.of rfl)) rfl ?_
   refine WL.val (.assign (.of rfl)) rfl ?_
   refine WL.nil ?_
   refine WC.ret ?_
   refine ret1 Tryz.results34 rfl ?_
   exact ⟨_, rfl, by rw [firstI_hit hno hs hb16], hS⟩
  ·
   have hc16 := hb16; try simp only [Gk.cs0] at hc16
   refine WC.skip ?_
   refine WC.region ?_
   refine WL.val (.add (.of rfl) (.of rfl) ⟨by omega, by omega⟩) rfl ?_
   refine WL.val (.move (.of rfl)) rfl ?_
   refine WL.nil ?_
   refine ⟨i + 1, ⟨rfl, rfl, rfl, rfl, trivial⟩, ⟨by omega, fun j t hj ht => ?_, hS⟩, by omega⟩
   rcases Nat.lt_or_ge j i with h1 | h1
   ·exact hno j t h1 ht
   ·have e : j = i := by omega
    subst e
    rw [hs] at ht; cases ht
    exact hb16
 ·
  have hc9 := hb9; try simp only [Gk.cs0] at hc9
  refine WC.exit ?_
  refine WC.seq ?_
  refine WC.region ?_
  refine WL.val (.assign (.of rfl)) rfl ?_
  refine WL.nil ?_
  refine WC.ret ?_
  refine ret1 Tryz.results34 rfl ?_
  exact ⟨_, rfl, by rw [firstI_none (fun j t ht => hno j t (by have := (List.getElem?_eq_some_iff.1 ht).1; omega) ht)], hS⟩
theorem ContainsFunc_any (a : Option Addr) (cap : Nat) (l : List Sv) (hln : l.length ≤ 100000) (pr : Sv → Bool) (fid : FuncId) (fn : Func) (hfn : Tryz.prog.funcs[fid]? = some fn) (hcal : callable fn = true) (capv : List Value) (B w : World) (I : Im) (As : List Assn) (hE : ∀ w, Sat B w I As → EntsW w I a l) (hf : ∀ (s : Sv) (c : List Value), EntAt I s c → ∀ w, Sat B w I As → Calls Tryz.prog fid ([Value.agg c.toArray] ++ capv).toArray w (Ret fun v w' => v = .bool (pr s) ∧ Sat B w' I As)) (hS : Sat B w I As) :
  Calls Tryz.prog 49 [.slice a l.length cap, .func (.func fid) #[] capv.toArray].toArray w (Ret fun v w' => v = .bool (decide (0 ≤ firstI pr l 0)) ∧ Sat B w' I As) := by
 refine calls Tryz.func49 rfl Tryz.ntmps49 rfl ?_
 refine WC.seq ?_
 refine WC.region ?_
 refine WL.val (.assign (.of rfl)) rfl ?_
 refine WL.nil ?_
 refine WC.seq ?_
 refine WC.region ?_
 refine WL.val (.move (.of rfl)) rfl ?_
 refine WL.val (.move (.of rfl)) rfl ?_
 refine WL.call Tryz.func34 rfl (evs_cons (.of rfl) (evs_cons (.of rfl) evs_nil)) rfl (IndexFunc_any a cap l hln pr fid fn hfn hcal capv B _ I As hE hf hS) ?_
 clear hS
 rintro _ w ⟨rfl, hS⟩
 refine WL.val (.geq (.of rfl) (.of rfl)) rfl ?_
 refine WL.val (.assign (.of rfl)) rfl ?_
 refine WL.nil ?_
 refine WC.ret ?_
 refine ret1 Tryz.results49 rfl ?_
 exact ⟨_, rfl, rfl, hS⟩
end Go.Proofs.YtchgkcbloeoopaaGreatDoor
namespace Go.Proofs.YtchgkcbloeoopaaGreatDoor
open Gk Pat
set_option linter.unusedVariables false
set_option linter.unusedSimpArgs false
def CompT (I : Im) (l : List UInt8) (po : Option Addr) (e a : Int) : Prop := match cmp l with
 | .error (e', a') => po = none ∧ e = e' ∧ a = a'
 | .ok Q => ∃ p, po = some p ∧ e = 0 ∧ a = 0 ∧ PatI I p Q l.length
theorem CompT.mono {I J : Im} {l : List UInt8} {po : Option Addr} {e a : Int} (h : CompT I l po e a) (hl : Le I J) : CompT J l po e a := by
 unfold CompT at h ⊢
 cases hq : cmp l with
 | error x => rw [hq] at h; exact h
 | ok Q => rw [hq] at h; obtain ⟨p, h1, h2, h3, h4⟩ := h; exact ⟨p, h1, h2, h3, h4.mono hl⟩
theorem Compile_t (l : List UInt8) (B w : World) (I : Im) (As : List Assn) (hS : Sat B w I As) (hl : l.length ≤ 9223372036854775807) :
  Calls Tryz.prog 18 [S l].toArray w (Ret fun v w' => ∃ po e a J, v = .tuple #[.pointer po, I64 e, I64 a] ∧ Le I J ∧ CompT J l po e a ∧ Sat B w' J As) := by
 refine (Compile_any l B w I As hS hl).mono fun x w' ⟨v, hx, h⟩ => ⟨v, hx, ?_⟩
 rcases h with ⟨e, a, J, h1, h2, h3, h4⟩ | ⟨Q, p, J, h1, h2, h3, h4, h5⟩
 ·exact ⟨none, e, a, J, h2, h3, by rw [CompT, h1]; exact ⟨rfl, rfl, rfl⟩, h4⟩
 ·exact ⟨some p, 0, 0, J, h2, h3, by rw [CompT, h1]; exact ⟨p, rfl, rfl, rfl, h4⟩, h5⟩
theorem Compile_ok {l : List UInt8} {Q : List Pl} (hq : cmp l = .ok Q) (B w : World) (I : Im) (As : List Assn) (hS : Sat B w I As) (hl : l.length ≤ 9223372036854775807) :
  Calls Tryz.prog 18 [S l].toArray w (Ret fun v w' => ∃ p J, v = .tuple #[.pointer (some p), I64 0, I64 0] ∧ Le I J ∧ PatI J p Q l.length ∧ Sat B w' J As) := by
 refine (Compile_t l B w I As hS hl).mono fun x w' ⟨v, hx, po, e, a, J, h1, h2, h3, h4⟩ => ⟨v, hx, ?_⟩
 rw [CompT, hq] at h3
 obtain ⟨p, rfl, rfl, rfl, h5⟩ := h3
 exact ⟨p, J, h1, h2, h5, h4⟩
theorem cmp_facts {l : List UInt8} {Q : List Pl} (h : cmp l = .ok Q) : WF Q ∧ 0 < Q.length ∧ Q.length ≤ 201 ∧ l.length ≤ 200 := by
 obtain ⟨hl, p, h1, h2, h3, rfl⟩ := cmp_ok h
 obtain ⟨hW, hE⟩ := placesOf_wf h1.ok
 have h4 := placesOf_len p
 have h5 := h1.len
 exact ⟨hW, hE.1, by unfold placesOf at h4; omega, hl⟩
theorem Match_any {l : List UInt8} {Q : List Pl} (hq : cmp l = .ok Q) (p : Addr) (s : List UInt8) (hs : s.length ≤ 1000000) (B w : World) (I : Im) (As : List Assn) (hS : Sat B w I As) (hp : PatI I p Q l.length) :
  Calls Tryz.prog 19 [.pointer (some p), S s].toArray w (Ret fun v w' => v = .bool (mat Q s) ∧ Sat B w' I As) := by
 have hf := cmp_facts hq
 refine calls Tryz.func19 rfl Tryz.ntmps19 rfl ?_
 refine WC.seq ?_
 refine WC.region ?_
 refine WL.val (.assign (.of rfl)) rfl ?_
 refine WL.nil ?_
 refine WC.seq ?_
 refine WC.region ?_
 refine WL.val (.move (.of rfl)) rfl ?_
 refine WL.val (.move (.of rfl)) rfl ?_
 refine WL.call Tryz.func41 rfl (evs_cons (.of rfl) (evs_cons (.of rfl) evs_nil)) rfl (run_any Q p l.length s hf.1 hf.2.1 (by omega) (by omega) hs B w I As hS hp) ?_
 clear hS
 rintro _ w ⟨rfl, hS⟩
 refine WL.val (.move (.of rfl)) rfl ?_
 refine WL.val (.extract (.of rfl) rfl) rfl ?_
 refine WL.val (.extract (.of rfl) rfl) rfl ?_
 refine WL.val (.assign (.of rfl)) rfl ?_
 refine WL.val (.assign (.of rfl)) rfl ?_
 refine WL.nil ?_
 refine WC.seq ?_
 refine WC.region ?_
 refine WL.val (.move (.of rfl)) rfl ?_
 refine WL.val (.assign (.of rfl)) rfl ?_
 refine WL.nil ?_
 refine WC.ret ?_
 refine ret1 Tryz.results19 rfl ?_
 exact ⟨_, rfl, rfl, hS⟩
theorem findC_any {s : Sv} {Q : List Pl} (hq : cmp s.urls = .ok Q) (a : Option Addr) (c : Nat) (p q : Addr) (n : List UInt8) (hn : n.length ≤ 1000000) (b : Nat) (B w : World) (I : Im) (hp : PatI I p Q s.urls.length) (As : List Assn) (hS : Sat B w I (blk b [S n] 9 :: As)) :
  Calls Tryz.prog 35 [.agg [I64 s.id, F64 s.ord, S s.urls, .bool s.login, .bool s.proxy, .bool s.back, S s.calls, .slice a s.rel.length c, .pointer (some p), .pointer (some q)].toArray, ptr b 0].toArray w (Ret fun v w' => v = .bool (mat Q n) ∧ Sat B w' I (blk b [S n] 9 :: As)) := by
 refine calls Tryz.func35 rfl Tryz.ntmps35 rfl ?_
 refine WC.seq ?_
 refine WC.region ?_
 refine WL.boxA (cs := [_, _, _, _, _, _, _, _, _, _]) hS (.of rfl) rfl ?_
 clear hS; intro b2 w hS
 refine WL.val (.assign (.of rfl)) rfl ?_
 refine WL.nil ?_
 refine WC.seq ?_
 refine WC.region ?_
 first | refine WL.val (.fieldAddr 8 (.of rfl) Tryz.underlying63 rfl rfl Tryz.sizeOf44 rfl) rfl ?_ | refine WL.val (.fieldAddrI 8 (.of rfl) Tryz.underlying63 rfl rfl Tryz.sizeOf44 rfl) rfl ?_
 first | refine WL.val (.ld (.of rfl) hS (k := 0) rfl Tryz.isAgg44 rfl) rfl ?_ | refine WL.val (.ld (.of rfl) hS (k := 1) rfl Tryz.isAgg44 rfl) rfl ?_
 first | refine WL.val (.ld (.of rfl) hS (k := 0) rfl Tryz.isAgg9 rfl) rfl ?_ | refine WL.val (.ld (.of rfl) hS (k := 1) rfl Tryz.isAgg9 rfl) rfl ?_
 refine WL.call Tryz.func19 rfl (evs_cons (.of rfl) (evs_cons (.of rfl) evs_nil)) rfl (Match_any hq p n hn B _ I _ hS hp) ?_
 clear hS
 rintro _ w ⟨rfl, hS⟩
 refine WL.val (.assign (.of rfl)) rfl ?_
 refine WL.nil ?_
 refine WC.ret ?_
 refine ret1 Tryz.results35 rfl ?_
 exact ⟨_, rfl, rfl, hS.drop (k := 0) rfl⟩
theorem callC_any (s : Sv) (a : Option Addr) (c : Nat) (p q : Addr) (id : Int) (b : Nat) (B w : World) (I : Im) (As : List Assn) (hS : Sat B w I (blk b [I64 id] 3 :: As)) :
  Calls Tryz.prog 43 [.agg [I64 s.id, F64 s.ord, S s.urls, .bool s.login, .bool s.proxy, .bool s.back, S s.calls, .slice a s.rel.length c, .pointer (some p), .pointer (some q)].toArray, ptr b 0].toArray w (Ret fun v w' => v = .bool (s.id == id) ∧ Sat B w' I (blk b [I64 id] 3 :: As)) := by
 refine calls Tryz.func43 rfl Tryz.ntmps43 rfl ?_
 refine WC.seq ?_
 refine WC.region ?_
 refine WL.boxA (cs := [_, _, _, _, _, _, _, _, _, _]) hS (.of rfl) rfl ?_
 clear hS; intro b2 w hS
 refine WL.val (.assign (.of rfl)) rfl ?_
 refine WL.nil ?_
 refine WC.seq ?_
 refine WC.region ?_
 first | refine WL.val (.fieldAddr 0 (.of rfl) Tryz.underlying63 rfl rfl Tryz.sizeOf37 rfl) rfl ?_ | refine WL.val (.fieldAddrI 0 (.of rfl) Tryz.underlying63 rfl rfl Tryz.sizeOf37 rfl) rfl ?_
 first | refine WL.val (.fieldAddr 0 (.of rfl) Tryz.underlying37 rfl rfl Tryz.sizeOf3 rfl) rfl ?_ | refine WL.val (.fieldAddrI 0 (.of rfl) Tryz.underlying37 rfl rfl Tryz.sizeOf3 rfl) rfl ?_
 first | refine WL.val (.ld (.of rfl) hS (k := 0) rfl Tryz.isAgg3 rfl) rfl ?_ | refine WL.val (.ld (.of rfl) hS (k := 1) rfl Tryz.isAgg3 rfl) rfl ?_
 first | refine WL.val (.ld (.of rfl) hS (k := 0) rfl Tryz.isAgg3 rfl) rfl ?_ | refine WL.val (.ld (.of rfl) hS (k := 1) rfl Tryz.isAgg3 rfl) rfl ?_
 refine WL.val (.eql (.of rfl) (.of rfl)) rfl ?_
 refine WL.val (.assign (.of rfl)) rfl ?_
 refine WL.nil ?_
 refine WC.ret ?_
 refine ret1 Tryz.results43 rfl ?_
 exact ⟨_, rfl, rfl, hS.drop (k := 0) rfl⟩
theorem madeC_any (s t : Sv) (a ta : Option Addr) (c tc : Nat) (p q : Addr) (b : Nat) (B w : World) (I : Im) (As : List Assn) (hS : Sat B w I (blk b [I64 t.id, F64 t.ord, S t.urls, .bool t.login, .bool t.proxy, .bool t.back, S t.calls, .slice ta t.rel.length tc] 37 :: As)) :
  Calls Tryz.prog 50 [.agg [I64 s.id, F64 s.ord, S s.urls, .bool s.login, .bool s.proxy, .bool s.back, S s.calls, .slice a s.rel.length c, .pointer (some p), .pointer (some q)].toArray, ptr b 0].toArray w (Ret fun v w' => v = .bool (s.id == t.id) ∧ Sat B w' I (blk b [I64 t.id, F64 t.ord, S t.urls, .bool t.login, .bool t.proxy, .bool t.back, S t.calls, .slice ta t.rel.length tc] 37 :: As)) := by
 refine calls Tryz.func50 rfl Tryz.ntmps50 rfl ?_
 refine WC.seq ?_
 refine WC.region ?_
 refine WL.boxA (cs := [_, _, _, _, _, _, _, _, _, _]) hS (.of rfl) rfl ?_
 clear hS; intro b2 w hS
 refine WL.val (.assign (.of rfl)) rfl ?_
 refine WL.nil ?_
 refine WC.seq ?_
 refine WC.region ?_
 first | refine WL.val (.fieldAddr 0 (.of rfl) Tryz.underlying63 rfl rfl Tryz.sizeOf37 rfl) rfl ?_ | refine WL.val (.fieldAddrI 0 (.of rfl) Tryz.underlying63 rfl rfl Tryz.sizeOf37 rfl) rfl ?_
 first | refine WL.val (.fieldAddr 0 (.of rfl) Tryz.underlying37 rfl rfl Tryz.sizeOf3 rfl) rfl ?_ | refine WL.val (.fieldAddrI 0 (.of rfl) Tryz.underlying37 rfl rfl Tryz.sizeOf3 rfl) rfl ?_
 first | refine WL.val (.ld (.of rfl) hS (k := 0) rfl Tryz.isAgg3 rfl) rfl ?_ | refine WL.val (.ld (.of rfl) hS (k := 1) rfl Tryz.isAgg3 rfl) rfl ?_
 first | refine WL.val (.fieldAddr 0 (.of rfl) Tryz.underlying37 rfl rfl Tryz.sizeOf3 rfl) rfl ?_ | refine WL.val (.fieldAddrI 0 (.of rfl) Tryz.underlying37 rfl rfl Tryz.sizeOf3 rfl) rfl ?_
 first | refine WL.val (.ld (.of rfl) hS (k := 0) rfl Tryz.isAgg3 rfl) rfl ?_ | refine WL.val (.ld (.of rfl) hS (k := 1) rfl Tryz.isAgg3 rfl) rfl ?_
 refine WL.val (.eql (.of rfl) (.of rfl)) rfl ?_
 refine WL.val (.assign (.of rfl)) rfl ?_
 refine WL.nil ?_
 refine WC.ret ?_
 refine ret1 Tryz.results50 rfl ?_
 exact ⟨_, rfl, rfl, hS.drop (k := 0) rfl⟩
end Go.Proofs.YtchgkcbloeoopaaGreatDoor
namespace Go.Proofs.YtchgkcbloeoopaaGreatDoor
open Gk Pat
set_option linter.unusedVariables false
set_option linter.unusedSimpArgs false
theorem bld63_26 : Bld Tryz.prog 63 [(0, 8), (8, 1), (9, 1)] [.int .i64 0, .float .f64 0, S [], .bool false, .bool false, .bool false, S [], .slice none 0 0, .pointer none, .pointer none] := bld_of Tryz.underlying63 Tryz.zeroValue63 (fun w => by simp [go_sem])
def badO (lo : List Sv) (s : Sv) : Nat :=
 if 16 ≤ lo.length then 5 else if (decide (s.id < 0) || decide (8 < (s.rel.length : Int))) = true then 1 else if lo.any (fun t => t.id == s.id) = true then 7
 else if (((chk s.urls).1 != 0) || ((chk s.calls).1 != 0)) = true then 8 else 0
theorem firstI_any (pr : Sv → Bool) : ∀ (l : List Sv) (i : Nat), decide (0 ≤ firstI pr l i) = l.any pr
 | [], _ => rfl
 | s :: r, i => by
  rw [firstI, List.any_cons]
  cases pr s with
  | true => simp
  | false => simpa using firstI_any pr r (i + 1)
theorem comp_chk {I : Im} {l : List UInt8} {po : Option Addr} {e a : Int} (h : CompT I l po e a) : (e != 0) = ((chk l).1 != 0) ∧ ((chk l).1 = 0 → ∃ p Q, po = some p ∧ cmp l = .ok Q ∧ PatI I p Q l.length) := by
 have key : ∀ e', cmp l = .error e' → (chk l).1 = e'.1 ∧ e'.1 ≠ 0 := fun e' hc => by
  unfold cmp at hc
  unfold chk
  split at hc
  ·rename_i hl; rw [if_pos hl]; cases hc; exact ⟨rfl, by decide⟩
  ·rename_i hl
   rw [if_neg hl]
   have := (cmpGo_chk l.length l 0 [] [] [] (Nat.le_refl _) rfl).1 e' hc
   rw [this.1]; exact ⟨rfl, this.2⟩
 have key2 : ∀ Q, cmp l = .ok Q → (chk l).1 = 0 := fun Q hc => by
  unfold cmp at hc
  unfold chk
  split at hc
  ·cases hc
  ·rename_i hl
   rw [if_neg hl, (cmpGo_chk l.length l 0 [] [] [] (Nat.le_refl _) rfl).2 Q hc]
 unfold CompT at h
 cases hc : cmp l with
 | ok Q =>
  rw [hc] at h
  obtain ⟨p, rfl, rfl, rfl, hp⟩ := h
  rw [key2 Q hc]
  exact ⟨rfl, fun _ => ⟨p, Q, rfl, rfl, hp⟩⟩
 | error x =>
  obtain ⟨e', a'⟩ := x
  rw [hc] at h
  obtain ⟨rfl, rfl, rfl⟩ := h
  obtain ⟨h1, h2⟩ := key _ hc
  rw [h1]
  exact ⟨rfl, fun h3 => absurd h3 h2⟩
theorem made_any (s : Sv) (sa : Option Addr) (sc : Nat) (hsc : s.rel.length ≤ sc) (hrl : s.rel.length ≤ 1000000) (hu : s.urls.length ≤ 9223372036854775807) (hcl : s.calls.length ≤ 9223372036854775807) (a : Option Addr) (cap : Nat) (lo : List Sv) (hlo : lo.length ≤ 100000) (B w : World) (I : Im) (hr : RS I sa 1 s.rel.length (s.rel.map S)) (As : List Assn) (hE : ∀ w, Sat B w I As → EntsW w I a lo) (hS : Sat B w I As) :
  Calls Tryz.prog 26 [.agg [I64 s.id, F64 s.ord, S s.urls, .bool s.login, .bool s.proxy, .bool s.back, S s.calls, .slice sa s.rel.length sc].toArray, .slice a lo.length cap].toArray w (Ret fun v w' => ∃ J cs code, Le I J ∧ v = .tuple #[.agg (List.toArray cs), I64 ((code : Nat) : Int)] ∧ code = badO lo s ∧ cs.length = 10 ∧ cs.all Value.oneCell' = true ∧ (code = 0 → EntAt J s cs) ∧ Sat B w' J As) := by
 refine calls Tryz.func26 rfl Tryz.ntmps26 rfl ?_
 refine WC.seq ?_
 refine WC.region ?_
 refine WL.boxA (cs := [_, _, _, _, _, _, _, _]) hS (.of rfl) rfl ?_
 clear hS; intro b2 w hS
 refine WL.allocA (cs := [_, _, _, _, _, _, _, _, _, _]) hS Tryz.zeroValue63 rfl ?_
 clear hS; intro b4 w hS
 refine WL.val (.assign (.of rfl)) rfl ?_
 refine WL.nil ?_
 refine WC.seq ?_
 refine WC.block ?_
 refine WC.seq ?_
 refine WC.region ?_
 refine WL.val (.move (.of rfl)) rfl ?_
 refine WL.val (.lenSlice (.of rfl) Tryz.underlying60) rfl ?_
 refine WL.val (.geq (.of rfl) (.of rfl)) rfl ?_
 refine WL.val (.assign (.of rfl)) rfl ?_
 refine WL.nil ?_
 refine WC.cond rfl (fun hb12 => ?_) (fun hb12 => ?_)
 ·
  have hc12 := hb12; try simp only [Gk.cs0] at hc12
  refine WC.seq ?_
  refine WC.region ?_
  refine WL.val (.build (cs := [_, _, _, _, _, _, _, _, _, _]) parts_nil bld63_26 rfl) rfl ?_
  first | refine WL.stA hS (k := 0) rfl (.of rfl) (.of rfl) rfl Tryz.sizeOf63 rfl (by simp) ?_ | refine WL.stA hS (k := 1) rfl (.of rfl) (.of rfl) rfl Tryz.sizeOf63 rfl (by simp) ?_
  clear hS; intro w hS; try dsimp only [List.set] at hS
  try simp only [List.take_zero, List.nil_append, List.append_nil, List.drop_succ_cons, List.drop_zero, List.drop_nil, Nat.zero_add] at hS
  refine WL.val (.assign (.of rfl)) rfl ?_
  refine WL.nil ?_
  refine WC.ret ?_
  first | refine ret2c (b := _) (cs := [_, _, _, _, _, _, _, _, _, _]) Tryz.results26 hS (k := 0) rfl Tryz.isAgg63 Tryz.sizeOf63 rfl rfl rfl ?_ | refine ret2c (b := _) (cs := [_, _, _, _, _, _, _, _, _, _]) Tryz.results26 hS (k := 1) rfl Tryz.isAgg63 Tryz.sizeOf63 rfl rfl rfl ?_
  refine ⟨_, rfl, I, _, 5, Le.refl _, rfl, ?_, rfl, rfl, fun h => (by cases h), ((hS.drop (k := 0) rfl).drop (k := 0) rfl)⟩
  unfold badO
  rw [if_pos (by simp only [decide_eq_true_eq] at hb12; omega)]
 ·
  have hc12 := hb12; try simp only [Gk.cs0] at hc12
  refine WC.seq ?_
  refine WC.region ?_
  first | refine WL.val (.fieldAddr 0 (.of rfl) Tryz.underlying37 rfl rfl Tryz.sizeOf3 rfl) rfl ?_ | refine WL.val (.fieldAddrI 0 (.of rfl) Tryz.underlying37 rfl rfl Tryz.sizeOf3 rfl) rfl ?_
  first | refine WL.val (.ld (.of rfl) hS (k := 0) rfl Tryz.isAgg3 rfl) rfl ?_ | refine WL.val (.ld (.of rfl) hS (k := 1) rfl Tryz.isAgg3 rfl) rfl ?_
  refine WL.val (.lss (.of rfl) (.of rfl)) rfl ?_
  refine WL.val (.move (.of rfl)) rfl ?_
  refine WL.gval rfl rfl (fun hg1 => (by first | exact .fieldAddr 7 (.of rfl) Tryz.underlying37 rfl rfl Tryz.sizeOf35 rfl | exact .fieldAddrI 7 (.of rfl) Tryz.underlying37 rfl rfl Tryz.sizeOf35 rfl)) rfl ?_
  refine WL.gval rfl rfl (fun hg1 => (by first | exact (.ld (.gd hg1 rfl) hS (k := 0) rfl Tryz.isAgg35 rfl) | exact (.ld (.gd hg1 rfl) hS (k := 1) rfl Tryz.isAgg35 rfl))) rfl ?_
  refine WL.gval rfl rfl (fun hg1 => (.lenSlice (.gd hg1 rfl) Tryz.underlying35)) rfl ?_
  refine WL.gval rfl rfl (fun hg1 => (.gtr (.gd hg1 rfl) (.of rfl))) rfl ?_
  refine WL.val (.por (.of rfl) (.of rfl) (.of rfl)) rfl ?_
  refine WL.val (.assign (.of rfl)) rfl ?_
  refine WL.nil ?_
  refine WC.cond rfl (fun hb17 => ?_) (fun hb17 => ?_)
  ·
   have hc17 := hb17; try simp only [Gk.cs0] at hc17
   refine WC.seq ?_
   refine WC.region ?_
   refine WL.val (.build (cs := [_, _, _, _, _, _, _, _, _, _]) parts_nil bld63_26 rfl) rfl ?_
   first | refine WL.stA hS (k := 0) rfl (.of rfl) (.of rfl) rfl Tryz.sizeOf63 rfl (by simp) ?_ | refine WL.stA hS (k := 1) rfl (.of rfl) (.of rfl) rfl Tryz.sizeOf63 rfl (by simp) ?_
   clear hS; intro w hS; try dsimp only [List.set] at hS
   try simp only [List.take_zero, List.nil_append, List.append_nil, List.drop_succ_cons, List.drop_zero, List.drop_nil, Nat.zero_add] at hS
   refine WL.val (.assign (.of rfl)) rfl ?_
   refine WL.nil ?_
   refine WC.ret ?_
   first | refine ret2c (b := _) (cs := [_, _, _, _, _, _, _, _, _, _]) Tryz.results26 hS (k := 0) rfl Tryz.isAgg63 Tryz.sizeOf63 rfl rfl rfl ?_ | refine ret2c (b := _) (cs := [_, _, _, _, _, _, _, _, _, _]) Tryz.results26 hS (k := 1) rfl Tryz.isAgg63 Tryz.sizeOf63 rfl rfl rfl ?_
   refine ⟨_, rfl, I, _, 1, Le.refl _, rfl, ?_, rfl, rfl, fun h => (by cases h), ((hS.drop (k := 0) rfl).drop (k := 0) rfl)⟩
   unfold badO
   rw [if_neg (by simp only [decide_eq_false_iff_not] at hb12; omega), if_pos hb17]
  ·
   have hc17 := hb17; try simp only [Gk.cs0] at hc17
   refine WC.seq ?_
   replace hS := hS.pick 1 rfl
   try dsimp only [List.eraseIdx] at hS
   refine WC.region ?_
   refine WL.val (.move (.of rfl)) rfl ?_
   refine WL.val (.makeFunc (evs_cons (.of rfl) evs_nil)) rfl ?_
   refine WL.call Tryz.func49 rfl (evs_cons (.of rfl) (evs_cons (.of rfl) evs_nil)) rfl (ContainsFunc_any a cap lo hlo (fun t => t.id == s.id) 50 _ Tryz.func50 rfl [ptr b2 0] B _ I (blk b2 [I64 s.id, F64 s.ord, S s.urls, .bool s.login, .bool s.proxy, .bool s.back, S s.calls, .slice sa s.rel.length sc] 37 :: blk b4 [I64 0, F64 0, S [], .bool false, .bool false, .bool false, S [], .slice none 0 0, .pointer none, .pointer none] 63 :: As) (fun w h => hE w ((h.drop (k := 0) rfl).drop (k := 0) rfl)) (fun t c ht w h => by
    obtain ⟨ta, tc, tp, tq, _, _, rfl, _⟩ := ht
    exact madeC_any t s ta sa tc sc tp tq b2 B w I _ h) hS) ?_
   clear hS
   rintro _ w ⟨rfl, hS⟩
   rw [firstI_any]
   refine WL.val (.assign (.of rfl)) rfl ?_
   refine WL.nil ?_
   refine WC.cond rfl (fun hb28 => ?_) (fun hb28 => ?_)
   ·
    have hc28 := hb28; try simp only [Gk.cs0] at hc28
    refine WC.seq ?_
    refine WC.region ?_
    refine WL.val (.build (cs := [_, _, _, _, _, _, _, _, _, _]) parts_nil bld63_26 rfl) rfl ?_
    first | refine WL.stA hS (k := 0) rfl (.of rfl) (.of rfl) rfl Tryz.sizeOf63 rfl (by simp) ?_ | refine WL.stA hS (k := 1) rfl (.of rfl) (.of rfl) rfl Tryz.sizeOf63 rfl (by simp) ?_
    clear hS; intro w hS; try dsimp only [List.set] at hS
    try simp only [List.take_zero, List.nil_append, List.append_nil, List.drop_succ_cons, List.drop_zero, List.drop_nil, Nat.zero_add] at hS
    refine WL.val (.assign (.of rfl)) rfl ?_
    refine WL.nil ?_
    refine WC.ret ?_
    first | refine ret2c (b := _) (cs := [_, _, _, _, _, _, _, _, _, _]) Tryz.results26 hS (k := 0) rfl Tryz.isAgg63 Tryz.sizeOf63 rfl rfl rfl ?_ | refine ret2c (b := _) (cs := [_, _, _, _, _, _, _, _, _, _]) Tryz.results26 hS (k := 1) rfl Tryz.isAgg63 Tryz.sizeOf63 rfl rfl rfl ?_
    refine ⟨_, rfl, I, _, 7, Le.refl _, rfl, ?_, rfl, rfl, fun h => (by cases h), ((hS.drop (k := 0) rfl).drop (k := 0) rfl)⟩
    unfold badO
    rw [if_neg (by simp only [decide_eq_false_iff_not] at hb12; omega), if_neg (by rw [hb17]; decide), if_pos hb28]
   ·
    have hc28 := hb28; try simp only [Gk.cs0] at hc28
    refine WC.skip ?_
    refine WC.seq ?_
    refine WC.region ?_
    first | refine WL.val (.fieldAddr 2 (.of rfl) Tryz.underlying37 rfl rfl Tryz.sizeOf9 rfl) rfl ?_ | refine WL.val (.fieldAddrI 2 (.of rfl) Tryz.underlying37 rfl rfl Tryz.sizeOf9 rfl) rfl ?_
    first | refine WL.val (.ld (.of rfl) hS (k := 0) rfl Tryz.isAgg9 rfl) rfl ?_ | refine WL.val (.ld (.of rfl) hS (k := 1) rfl Tryz.isAgg9 rfl) rfl ?_
    refine WL.call Tryz.func18 rfl (evs_cons (.of rfl) evs_nil) rfl (Compile_t s.urls B _ I _ hS hu) ?_
    clear hS
    rintro _ w ⟨po, e1, a1, J1, rfl, hJ1, hc1, hS⟩
    refine WL.val (.move (.of rfl)) rfl ?_
    refine WL.val (.extract (.of rfl) rfl) rfl ?_
    refine WL.val (.extract (.of rfl) rfl) rfl ?_
    refine WL.val (.extract (.of rfl) rfl) rfl ?_
    refine WL.val (.assign (.of rfl)) rfl ?_
    refine WL.val (.assign (.of rfl)) rfl ?_
    refine WL.val (.assign (.of rfl)) rfl ?_
    refine WL.nil ?_
    refine WC.seq ?_
    refine WC.region ?_
    first | refine WL.val (.fieldAddr 6 (.of rfl) Tryz.underlying37 rfl rfl Tryz.sizeOf9 rfl) rfl ?_ | refine WL.val (.fieldAddrI 6 (.of rfl) Tryz.underlying37 rfl rfl Tryz.sizeOf9 rfl) rfl ?_
    first | refine WL.val (.ld (.of rfl) hS (k := 0) rfl Tryz.isAgg9 rfl) rfl ?_ | refine WL.val (.ld (.of rfl) hS (k := 1) rfl Tryz.isAgg9 rfl) rfl ?_
    refine WL.call Tryz.func18 rfl (evs_cons (.of rfl) evs_nil) rfl (Compile_t s.calls B _ J1 _ hS hcl) ?_
    clear hS
    rintro _ w ⟨qo, e2, a2, J2, rfl, hJ2, hc2, hS⟩
    refine WL.val (.move (.of rfl)) rfl ?_
    refine WL.val (.extract (.of rfl) rfl) rfl ?_
    refine WL.val (.extract (.of rfl) rfl) rfl ?_
    refine WL.val (.extract (.of rfl) rfl) rfl ?_
    refine WL.val (.assign (.of rfl)) rfl ?_
    refine WL.val (.assign (.of rfl)) rfl ?_
    refine WL.val (.assign (.of rfl)) rfl ?_
    refine WL.nil ?_
    refine WC.seq ?_
    refine WC.seq ?_
    refine WC.region ?_
    refine WL.val (.move (.of rfl)) rfl ?_
    refine WL.val (.neq (.of rfl) (.of rfl)) rfl ?_
    refine WL.val (.move (.of rfl)) rfl ?_
    refine WL.gval rfl rfl (fun hg1 => (.move (.of rfl))) rfl ?_
    refine WL.gval rfl rfl (fun hg1 => (.neq (.gd hg1 rfl) (.of rfl))) rfl ?_
    refine WL.val (.por (.of rfl) (.of rfl) (.of rfl)) rfl ?_
    refine WL.nil ?_
    refine WC.cond rfl (fun hb52 => ?_) (fun hb52 => ?_)
    ·
     have hc52 := hb52; try simp only [Gk.cs0] at hc52
     refine WC.seq ?_
     refine WC.region ?_
     refine WL.val (.build (cs := [_, _, _, _, _, _, _, _, _, _]) parts_nil bld63_26 rfl) rfl ?_
     first | refine WL.stA hS (k := 0) rfl (.of rfl) (.of rfl) rfl Tryz.sizeOf63 rfl (by simp) ?_ | refine WL.stA hS (k := 1) rfl (.of rfl) (.of rfl) rfl Tryz.sizeOf63 rfl (by simp) ?_
     clear hS; intro w hS; try dsimp only [List.set] at hS
     try simp only [List.take_zero, List.nil_append, List.append_nil, List.drop_succ_cons, List.drop_zero, List.drop_nil, Nat.zero_add] at hS
     refine WL.val (.assign (.of rfl)) rfl ?_
     refine WL.nil ?_
     refine WC.ret ?_
     first | refine ret2c (b := _) (cs := [_, _, _, _, _, _, _, _, _, _]) Tryz.results26 hS (k := 0) rfl Tryz.isAgg63 Tryz.sizeOf63 rfl rfl rfl ?_ | refine ret2c (b := _) (cs := [_, _, _, _, _, _, _, _, _, _]) Tryz.results26 hS (k := 1) rfl Tryz.isAgg63 Tryz.sizeOf63 rfl rfl rfl ?_
     refine ⟨_, rfl, J2, _, 8, Le.trans hJ1 hJ2, rfl, ?_, rfl, rfl, fun h => (by cases h), ((hS.drop (k := 0) rfl).drop (k := 0) rfl)⟩
     have hk := hb52
     rw [(comp_chk hc1).1, (comp_chk hc2).1] at hk
     unfold badO
     rw [if_neg (by simp only [decide_eq_false_iff_not] at hb12; omega), if_neg (by rw [hb17]; decide), if_neg (by rw [hb28]; decide), if_pos hk]
    ·
     have hc52 := hb52; try simp only [Gk.cs0] at hc52
     refine WC.skip ?_
     refine WC.seq ?_
     refine WC.region ?_
     first | refine WL.val (.fieldAddr 7 (.of rfl) Tryz.underlying37 rfl rfl Tryz.sizeOf35 rfl) rfl ?_ | refine WL.val (.fieldAddrI 7 (.of rfl) Tryz.underlying37 rfl rfl Tryz.sizeOf35 rfl) rfl ?_
     first | refine WL.val (.ld (.of rfl) hS (k := 0) rfl Tryz.isAgg35 rfl) rfl ?_ | refine WL.val (.ld (.of rfl) hS (k := 1) rfl Tryz.isAgg35 rfl) rfl ?_
     refine WL.call Tryz.func51 rfl (evs_cons (.of rfl) evs_nil) rfl (Clone_any sa sc s.rel hrl B _ J2 ((hr.mono hJ1).mono hJ2) _ hS) ?_
     clear hS
     rintro _ w ⟨J3, ra, rc, rfl, hJ3, hrc, hrr, hS⟩
     first | refine WL.val (.fieldAddr 7 (.of rfl) Tryz.underlying37 rfl rfl Tryz.sizeOf35 rfl) rfl ?_ | refine WL.val (.fieldAddrI 7 (.of rfl) Tryz.underlying37 rfl rfl Tryz.sizeOf35 rfl) rfl ?_
     first | refine WL.st1 hS (k := 0) rfl (.of rfl) (.of rfl) rfl Tryz.sizeOf35 (by simp) ?_ | refine WL.st1 hS (k := 1) rfl (.of rfl) (.of rfl) rfl Tryz.sizeOf35 (by simp) ?_
     clear hS; intro w hS; try dsimp only [List.set] at hS
     refine WL.nil ?_
     refine WC.seq ?_
     refine WC.region ?_
     first | refine WL.val (.ldsW (cs := [_, _, _, _, _, _, _, _]) (.of rfl) hS (k := 0) rfl Tryz.isAgg37 Tryz.sizeOf37 rfl) rfl ?_ | refine WL.val (.lds (vs := [_, _, _, _, _, _, _, _]) (.of rfl) hS (k := 0) rfl Tryz.isAgg37 Tryz.sizeOf37 rfl (fun _ _ h => h)) rfl ?_ | refine WL.val (.ldsW (cs := [_, _, _, _, _, _, _, _]) (.of rfl) hS (k := 1) rfl Tryz.isAgg37 Tryz.sizeOf37 rfl) rfl ?_ | refine WL.val (.lds (vs := [_, _, _, _, _, _, _, _]) (.of rfl) hS (k := 1) rfl Tryz.isAgg37 Tryz.sizeOf37 rfl (fun _ _ h => h)) rfl ?_
     refine WL.val (.move (.of rfl)) rfl ?_
     refine WL.val (.move (.of rfl)) rfl ?_
     refine WL.val (.build (cs := [_, _, _, _, _, _, _, _, _, _]) (parts_cons (.of rfl) (parts_cons (.of rfl) (parts_cons (.of rfl) parts_nil))) bld63_26 rfl) rfl ?_
     first | refine WL.stA hS (k := 0) rfl (.of rfl) (.of rfl) rfl Tryz.sizeOf63 rfl (by simp) ?_ | refine WL.stA hS (k := 1) rfl (.of rfl) (.of rfl) rfl Tryz.sizeOf63 rfl (by simp) ?_
     clear hS; intro w hS; try dsimp only [List.set] at hS
     try simp only [List.take_zero, List.nil_append, List.append_nil, List.drop_succ_cons, List.drop_zero, List.drop_nil, Nat.zero_add] at hS
     refine WL.val (.assign (.of rfl)) rfl ?_
     refine WL.nil ?_
     refine WC.ret ?_
     first | refine ret2c (b := _) (cs := [_, _, _, _, _, _, _, _, _, _]) Tryz.results26 hS (k := 0) rfl Tryz.isAgg63 Tryz.sizeOf63 rfl rfl rfl ?_ | refine ret2c (b := _) (cs := [_, _, _, _, _, _, _, _, _, _]) Tryz.results26 hS (k := 1) rfl Tryz.isAgg63 Tryz.sizeOf63 rfl rfl rfl ?_
     have hk := hb52
     rw [(comp_chk hc1).1, (comp_chk hc2).1] at hk
     obtain ⟨k1, k2⟩ := Bool.or_eq_false_iff.1 hk
     simp only [bne_eq_false_iff_eq] at k1 k2
     obtain ⟨p, Q, rfl, hq, hp⟩ := (comp_chk hc1).2 k1
     obtain ⟨q, T, rfl, hq2, hp2⟩ := (comp_chk hc2).2 k2
     refine ⟨_, rfl, J3, entCells s ra rc p q, 0, Le.trans hJ1 (Le.trans hJ2 hJ3), rfl, ?_, rfl, rfl, fun _ => ⟨ra, rc, p, q, Q, T, rfl, hrc, hrr, hq, hp.mono (Le.trans hJ2 hJ3), hq2, hp2.mono hJ3⟩, ((hS.drop (k := 0) rfl).drop (k := 0) rfl)⟩
     unfold badO
     rw [if_neg (by simp only [decide_eq_false_iff_not] at hb12; omega), if_neg (by rw [hb17]; decide), if_neg (by rw [hb28]; decide), if_neg (by rw [hk]; decide)]
end Go.Proofs.YtchgkcbloeoopaaGreatDoor
namespace Go.Proofs.YtchgkcbloeoopaaGreatDoor
open Gk Pat
set_option linter.unusedVariables false
set_option linter.unusedSimpArgs false
theorem info37_12 : Tryz.prog.info? 37 = some Tryz.t37 := by kernel_rfl
def RegAt (I : Im) (pr : Addr) (lo : List Sv) : Prop := ∃ a c E, At I pr [.slice a lo.length c] ∧ lo.length ≤ c ∧ EntsIn I a E lo
theorem EntsIn.mono {I J : Im} {a : Option Addr} {E : List (List Value)} {l : List Sv} (h : EntsIn I a E l) (hl : Le I J) : EntsIn J a E l := ⟨h.1, fun i s hs => by
 obtain ⟨p, c, e, h0, h1, ra, rc, pp, qq, Q, T, e2, h2, h3, h4, h5, h6, h7⟩ := h.2 i s hs
 exact ⟨p, c, e, h0, h1.mono hl, ra, rc, pp, qq, Q, T, e2, h2, h3.mono hl, h4, h5.mono hl, h6, h7.mono hl⟩⟩
def RowsOf (J : Im) (C : List (List Value)) (l : List Sv) : Prop := C.length = l.length ∧ ∀ (i : Nat) (s : Sv), l[i]? = some s → ∃ c, C[i]? = some c ∧ SvAt J s c
theorem RowsOf.mono {J K : Im} {C : List (List Value)} {l : List Sv} (h : RowsOf J C l) (hl : Le J K) : RowsOf K C l := ⟨h.1, fun i s hs => by
 obtain ⟨c, h1, h2⟩ := h.2 i s hs
 exact ⟨c, h1, h2.mono hl⟩⟩
theorem RowsOf.snoc {J : Im} {C : List (List Value)} {l : List Sv} {s : Sv} {c : List Value} (h : RowsOf J C l) (hs : SvAt J s c) : RowsOf J (C ++ [c]) (l ++ [s]) := ⟨by simp [h.1], fun i t ht => by
 rcases Nat.lt_or_ge i l.length with hi | hi
 ·rw [List.getElem?_append_left hi] at ht
  obtain ⟨d, h1, h2⟩ := h.2 i t ht
  exact ⟨d, by rw [List.getElem?_append_left (by rw [h.1]; exact hi)]; exact h1, h2⟩
 ·rw [List.getElem?_append_right hi] at ht
  have hi0 : i - l.length = 0 := by have := (List.getElem?_eq_some_iff.1 ht).1; simp at this; omega
  rw [hi0] at ht
  cases ht
  exact ⟨c, by rw [List.getElem?_append_right (by rw [h.1]; exact hi), h.1, hi0]; rfl, hs⟩⟩
theorem RegAll_any (pr : Addr) (lo : List Sv) (hlo : lo.length ≤ 100000) (hrl : ∀ s ∈ lo, s.rel.length ≤ 1000000) (a : Option Addr) (cc : Nat) (E : List (List Value)) (B w : World) (I : Im) (hreg : At I pr [.slice a lo.length cc]) (hE : EntsIn I a E lo) (As : List Assn) (hS : Sat B w I As) :
  Calls Tryz.prog 12 [.pointer (some pr)].toArray w (Ret fun v w' => ∃ J C, Le I J ∧ RowsOf J C lo ∧ Sat B w' J (Vec 37 8 v lo.length C.flatten :: As)) := by
 refine calls Tryz.func12 rfl Tryz.ntmps12 rfl ?_
 refine WC.seq ?_
 refine WC.region ?_
 refine WL.val (.assign (.of rfl)) rfl ?_
 refine WL.nil ?_
 refine WC.seq ?_
 refine WC.region ?_
 refine WL.val (.assign (.of rfl)) rfl ?_
 refine WL.nil ?_
 refine WC.seq ?_
 refine WC.seq ?_
 refine WC.region ?_
 refine WL.val (.move (.of rfl)) rfl ?_
 refine WL.val (.nilCheck (.of rfl)) rfl ?_
 first | refine WL.val (.fieldAddr 0 (.of rfl) Tryz.underlying67 rfl rfl Tryz.sizeOf60 rfl) rfl ?_ | refine WL.val (.fieldAddrI 0 (.of rfl) Tryz.underlying67 rfl rfl Tryz.sizeOf60 rfl) rfl ?_
 first | refine WL.val (.ldI (.of rfl) hS (At.add hx _) Tryz.isAgg60 rfl) rfl ?_ | refine WL.val (.ldI (.of rfl) hS (At.add hreg _) Tryz.isAgg60 rfl) rfl ?_
 refine WL.val (.lenSlice (.of rfl) Tryz.underlying60) rfl ?_
 refine WL.val (.move (.of rfl)) rfl ?_
 refine WL.nil ?_
 refine WC.block ?_
 replace hS := hS.vecNil 37 8
 refine WC.loop (σ := Value × Nat × Im × List (List Value)) (fun ⟨kv, i, J, C⟩ => [(3, kv), (9, .slice a lo.length cc), (10, I64 (lo.length : Nat)), (11, I64 (i : Nat))]) (fun ⟨kv, i, J, C⟩ w => i ≤ lo.length ∧ Le I J ∧ RowsOf J C (lo.take i) ∧ Sat B w J (Vec 37 8 kv i C.flatten :: As)) (fun ⟨kv, i, J, C⟩ => lo.length - i) (.slice none 0 0, 0, I, []) ⟨rfl, rfl, rfl, rfl, trivial⟩ ⟨Nat.zero_le _, Le.refl _, ⟨rfl, fun _ _ h => by simp at h⟩, hS⟩ ?_
 rintro ⟨kv, i, J, C⟩ w ⟨hi, hJ, hC, hS⟩
 change WC _ _ _ _ [(3, kv), (9, .slice a lo.length cc), (10, I64 (lo.length : Nat)), (11, I64 (i : Nat))] w
 refine WC.seq ?_
 refine WC.region ?_
 refine WL.val (.lss (.of rfl) (.of rfl)) rfl ?_
 refine WL.nil ?_
 refine WC.seq ?_
 refine WC.cond rfl (fun hb12 => ?_) (fun hb12 => ?_)
 ·
  have hc12 := hb12; try simp only [Gk.cs0] at hc12
  refine WC.skip ?_
  refine WC.seq ?_
  refine WC.block ?_
  refine WC.seq ?_
  obtain ⟨s, hs⟩ : ∃ s, lo[i]? = some s := ⟨_, List.getElem?_eq_getElem (by omega)⟩
  obtain ⟨p, c, rfl, hc, hx, ra, rc, pp, qq, Q, T, rfl, hrc, hrr, _⟩ := (hE.mono hJ).2 i s hs
  unfold entCells at hx
  have hsm := hrl s (List.mem_of_getElem? hs)
  have hln : (lo.take i).length = i := by rw [List.length_take]; omega
  have htn : lo.take (i + 1) = lo.take i ++ [s] := by rw [List.take_add_one, hs]; rfl
  refine WC.region ?_
  first | refine WL.val (.indexAddr (.of rfl) (.of rfl) (by omega) (by omega) Tryz.underlying60 Tryz.sizeOf63) rfl ?_ | refine WL.val (.indexAddrI (.of rfl) (.of rfl) (by omega) (by omega) Tryz.underlying60 Tryz.sizeOf63) rfl ?_
  first | refine WL.val (.ldsW (cs := [_, _, _, _, _, _, _, _, _, _]) (.of rfl) hS (k := 0) rfl Tryz.isAgg63 Tryz.sizeOf63 rfl) rfl ?_ | refine WL.val (.lds (vs := [_, _, _, _, _, _, _, _, _, _]) (.of rfl) hS (k := 0) rfl Tryz.isAgg63 Tryz.sizeOf63 rfl (fun _ _ h => h)) rfl ?_ | refine WL.val (.ldsI (.of rfl) hS hx Tryz.isAgg63 Tryz.sizeOf63 rfl (fun _ _ h => h)) rfl ?_ | refine WL.val (.ldsI (.of rfl) hS (At.add hx _) Tryz.isAgg63 Tryz.sizeOf63 rfl (fun _ _ h => h)) rfl ?_ | refine WL.val (.ldsI (.of rfl) hS hreg Tryz.isAgg63 Tryz.sizeOf63 rfl (fun _ _ h => h)) rfl ?_ | refine WL.val (.ldsI (.of rfl) hS (At.add hreg _) Tryz.isAgg63 Tryz.sizeOf63 rfl (fun _ _ h => h)) rfl ?_
  refine WL.allocA (cs := [_, _, _, _, _, _, _, _, _, _]) hS Tryz.zeroValue63 rfl ?_
  clear hS; intro b5 w hS
  first | refine WL.stA hS (k := 0) rfl (.of rfl) (.of rfl) rfl Tryz.sizeOf63 rfl (by simp) ?_ | refine WL.stA hS (k := 1) rfl (.of rfl) (.of rfl) rfl Tryz.sizeOf63 rfl (by simp) ?_
  clear hS; intro w hS; try dsimp only [List.set] at hS
  try simp only [List.take_zero, List.nil_append, List.append_nil, List.drop_succ_cons, List.drop_zero, List.drop_nil, Nat.zero_add] at hS
  refine WL.nil ?_
  refine WC.region ?_
  refine WL.val (.move (.of rfl)) rfl ?_
  first | refine WL.val (.fieldAddr 0 (.of rfl) Tryz.underlying63 rfl rfl Tryz.sizeOf37 rfl) rfl ?_ | refine WL.val (.fieldAddrI 0 (.of rfl) Tryz.underlying63 rfl rfl Tryz.sizeOf37 rfl) rfl ?_
  refine WL.val (.lds (vs := [I64 s.id, F64 s.ord, S s.urls, .bool s.login, .bool s.proxy, .bool s.back, S s.calls, .slice ra s.rel.length rc]) (.of rfl) hS (k := 0) rfl Tryz.isAgg37 Tryz.sizeOf37 rfl (fun j v hj => by
   rw [Nat.zero_add]
   have h1 := (List.getElem?_eq_some_iff.1 hj).1
   have h2 := List.getElem?_append_left (l₂ := [Value.pointer (some pp), .pointer (some qq)]) h1
   rw [hj] at h2
   exact h2)) rfl ?_
  refine WL.call Tryz.func29 rfl (evs_cons (.of rfl) evs_nil) rfl (own_svc s ra rc hsm B _ J hrr _ hS) ?_
  clear hS
  rintro _ w ⟨J2, cs, hJ2, rfl, hsv, hS⟩
  obtain ⟨sa, sc, rfl, hq1, hq2⟩ := hsv
  have hsv : SvAt J2 s (svCells s sa sc) := ⟨sa, sc, rfl, hq1, hq2⟩
  refine WL.buildSlice (cs := [_, _, _, _, _, _, _, _]) hS (parts_cons (.of rfl) parts_nil) Tryz.underlying22 Tryz.sizeOf37 Tryz.zeroValue37 rfl rfl rfl rfl ?_
  clear hS; intro b19 w hS
  first | refine WL.append (size := 8) (bytes := 80) hS (.of rfl) (.of rfl) (k := 0) rfl Tryz.underlying22 info37_12 rfl rfl rfl rfl rfl rfl rfl ⟨by omega, by unfold maxLen; omega⟩ rfl ?_ | refine WL.append (size := 8) (bytes := 80) hS (.of rfl) (.of rfl) (k := 1) rfl Tryz.underlying22 info37_12 rfl rfl rfl rfl rfl rfl rfl ⟨by omega, by unfold maxLen; omega⟩ rfl ?_
  clear hS; intro v20 w hS; try dsimp only [List.set] at hS
  first | obtain ⟨a20, c20, rfl, hcap20, _⟩ := hS.vecSlice (k := 0) (v := v20) rfl | obtain ⟨a20, c20, rfl, hcap20, _⟩ := hS.vecSlice (k := 1) (v := v20) rfl
  refine WL.val (.assign (.of rfl)) rfl ?_
  refine WL.nil ?_
  refine WC.region ?_
  refine WL.val (.add (.of rfl) (.of rfl) ⟨by omega, by omega⟩) rfl ?_
  refine WL.val (.move (.of rfl)) rfl ?_
  refine WL.nil ?_
  refine ⟨(_, i + 1, J2, C ++ [svCells s sa sc]), ⟨rfl, rfl, rfl, rfl, trivial⟩, ⟨by (try dsimp only); omega, Le.trans hJ hJ2, ?_, ?_⟩, by (try dsimp only); omega⟩
  ·rw [htn]; exact (hC.mono hJ2).snoc hsv
  ·rw [List.flatten_append]
   have h := hS.drop (k := 0) rfl
   simpa [svCells] using h
 ·
  have hc12 := hb12; try simp only [Gk.cs0] at hc12
  refine WC.exit ?_
  refine WC.seq ?_
  refine WC.region ?_
  refine WL.val (.move (.of rfl)) rfl ?_
  refine WL.val (.assign (.of rfl)) rfl ?_
  refine WL.nil ?_
  refine WC.ret ?_
  refine ret1 Tryz.results12 rfl ?_
  have hin : i = lo.length := by omega
  subst hin
  rw [List.take_length] at hC
  exact ⟨_, rfl, J, C, hJ, hC, hS⟩
end Go.Proofs.YtchgkcbloeoopaaGreatDoor
namespace Go.Proofs.YtchgkcbloeoopaaGreatDoor
open Gk Pat
set_option linter.unusedVariables false
set_option linter.unusedSimpArgs false
theorem info34_10 : Tryz.prog.info? 34 = some Tryz.t34 := by kernel_rfl
theorem info63_10 : Tryz.prog.info? 63 = some Tryz.t63 := by kernel_rfl
theorem bld67_10 : Bld Tryz.prog 67 [(0, 1)] [.slice none 0 0] := bld_of Tryz.underlying67 Tryz.zeroValue67 (fun w => by simp [go_sem])
theorem bad_le {l : List Sv} {i : Nat} (h : ∀ (j : Nat) t, j < i → l[j]? = some t → bad l j t = 0) (hi : i ≤ l.length) : i ≤ 16 := by
 rcases Nat.lt_or_ge 16 i with h1 | h1
 ·have := h 16 _ h1 (List.getElem?_eq_getElem (by omega))
  unfold bad at this
  rw [if_pos rfl] at this
  cases this
 ·exact h1
theorem badO_bad {l : List Sv} {i : Nat} {s : Sv} (hi : i ≤ 16) (hl : i ≤ l.length) : badO (l.take i) s = bad l i s := by
 unfold badO bad
 rw [List.length_take, Nat.min_eq_left hl]
 by_cases h : i = 16
 ·rw [if_pos (by omega), if_pos h]
 ·rw [if_neg (by omega), if_neg h]
theorem made_n (s : Sv) (sa : Option Addr) (sc : Nat) (hsc : s.rel.length ≤ sc) (hrl : s.rel.length ≤ 1000000) (hu : s.urls.length ≤ 9223372036854775807) (hcl : s.calls.length ≤ 9223372036854775807) (a : Option Addr) (cap : Nat) (lo : List Sv) (n : Nat) (hn : lo.length = n) (hlo : n ≤ 100000) (B w : World) (I : Im) (hr : RS I sa 1 s.rel.length (s.rel.map S)) (As : List Assn) (hE : ∀ w, Sat B w I As → EntsW w I a lo) (hS : Sat B w I As) :
  Calls Tryz.prog 26 [.agg [I64 s.id, F64 s.ord, S s.urls, .bool s.login, .bool s.proxy, .bool s.back, S s.calls, .slice sa s.rel.length sc].toArray, .slice a n cap].toArray w (Ret fun v w' => ∃ J cs code, Le I J ∧ v = .tuple #[.agg (List.toArray cs), I64 ((code : Nat) : Int)] ∧ code = badO lo s ∧ cs.length = 10 ∧ cs.all Value.oneCell' = true ∧ (code = 0 → EntAt J s cs) ∧ Sat B w' J As) := by
 subst hn
 exact made_any s sa sc hsc hrl hu hcl a cap lo hlo B w I hr As hE hS
theorem ents_n {B w : World} {I : Im} {As : List Assn} {k T cap n : Nat} {a : Option Addr} {E : List (List Value)} {l : List Sv} (hS : Sat B w I As) (hn : l.length = n) (hk : As[k]? = some (Vec T 10 (.slice a n cap) n E.flatten)) (h10 : ∀ c ∈ E, c.length = 10)
  (hE : ∀ (i : Nat) (s : Sv), l[i]? = some s → ∃ c, E[i]? = some c ∧ EntAt I s c) : EntsW w I a l := by
 subst hn
 exact ents_vec hS hk h10 hE
theorem EntAt.mono {I J : Im} {s : Sv} {l : List Value} (h : EntAt I s l) (hl : Le I J) : EntAt J s l := by
 obtain ⟨ra, rc, pp, qq, Q, T, e2, h2, h3, h4, h5, h6, h7⟩ := h
 exact ⟨ra, rc, pp, qq, Q, T, e2, h2, h3.mono hl, h4, h5.mono hl, h6, h7.mono hl⟩
theorem EntAt.len {I : Im} {s : Sv} {l : List Value} (h : EntAt I s l) : l.length = 10 := by
 obtain ⟨ra, rc, pp, qq, Q, T, rfl, _⟩ := h
 rfl
def pickS (l : List Sv) (D : List Int) : List Sv := D.map fun d => l.getD d.toNat z0
theorem New_any (a : Option Addr) (cap : Nat) (l : List Sv) (hln : l.length ≤ 100000) (hom : ∀ v ∈ ords l, v < 18446744073709551616) (hfit : ∀ s ∈ l, s.urls.length ≤ 9223372036854775807 ∧ s.calls.length ≤ 9223372036854775807 ∧ s.rel.length ≤ 1000000) (B w : World) (I : Im) (hl : SvsAt I a l) (As : List Assn) (hS : Sat B w I As) :
  Calls Tryz.prog 10 [.slice a l.length cap].toArray w (Ret fun v w' => ∃ J, Le I J ∧ Sat B w' J As ∧ (((wrong l).1 ≠ 0 ∧ v = .tuple #[.pointer none, I64 ((wrong l).1 : Nat), I64 ((wrong l).2 : Nat)]) ∨ ((wrong l).1 = 0 ∧ ∃ pr D, v = .tuple #[.pointer (some pr), I64 0, I64 0] ∧ Srt.Ord (kx (ords l)) l.length D ∧ RegAt J pr (pickS l D)))) := by
 refine calls Tryz.func10 rfl Tryz.ntmps10 rfl ?_
 refine WC.seq ?_
 refine WC.region ?_
 refine WL.val (.assign (.of rfl)) rfl ?_
 refine WL.val (.assign (.of rfl)) rfl ?_
 refine WL.val (.assign (.of rfl)) rfl ?_
 refine WL.nil ?_
 refine WC.seq ?_
 refine WC.region ?_
 refine WL.val (.assign (.of rfl)) rfl ?_
 refine WL.nil ?_
 refine WC.seq ?_
 refine WC.region ?_
 refine WL.val (.assign (.of rfl)) rfl ?_
 refine WL.nil ?_
 refine WC.seq ?_
 refine WC.seq ?_
 refine WC.region ?_
 refine WL.val (.move (.of rfl)) rfl ?_
 refine WL.val (.lenSlice (.of rfl) Tryz.underlying22) rfl ?_
 refine WL.val (.move (.of rfl)) rfl ?_
 refine WL.nil ?_
 refine WC.block ?_
 replace hS := hS.vecNil 34 1
 replace hS := hS.vecNil 63 10
 refine WC.loop (σ := Nat × Im × Value × Value × List (List Value)) (fun ⟨i, J, ev, ov, E⟩ => [(5, ev), (6, ov), (14, .slice a l.length cap), (15, I64 (l.length : Nat)), (16, I64 (i : Nat))]) (fun ⟨i, J, ev, ov, E⟩ w => i ≤ l.length ∧ Le I J ∧ E.length = i ∧ (∀ c ∈ E, c.length = 10) ∧ (∀ (j : Nat) (s : Sv), (l.take i)[j]? = some s → ∃ c, E[j]? = some c ∧ EntAt J s c) ∧ (∀ (j : Nat) (t : Sv), j < i → l[j]? = some t → bad l j t = 0) ∧ Sat B w J (Vec 63 10 ev i E.flatten :: Vec 34 1 ov i (((ords l).take i).map F64) :: As)) (fun ⟨i, J, ev, ov, E⟩ => l.length - i) (0, I, .slice none 0 0, .slice none 0 0, []) ⟨rfl, rfl, rfl, rfl, rfl, trivial⟩ ⟨Nat.zero_le _, Le.refl _, rfl, fun _ h => (by simp at h), fun _ _ h => (by simp at h), fun _ _ h => absurd h (by omega), hS⟩ ?_
 rintro ⟨i, J, ev, ov, E⟩ w ⟨hi, hJ, hEl, h10, hEE, hok, hS⟩
 change WC _ _ _ _ [(5, ev), (6, ov), (14, .slice a l.length cap), (15, I64 (l.length : Nat)), (16, I64 (i : Nat))] w
 refine WC.seq ?_
 refine WC.region ?_
 refine WL.val (.lss (.of rfl) (.of rfl)) rfl ?_
 refine WL.nil ?_
 refine WC.seq ?_
 refine WC.cond rfl (fun hb17 => ?_) (fun hb17 => ?_)
 ·
  have hc17 := hb17; try simp only [Gk.cs0] at hc17
  refine WC.skip ?_
  refine WC.seq ?_
  refine WC.block ?_
  refine WC.seq ?_
  obtain ⟨s, hs⟩ : ∃ s, l[i]? = some s := ⟨_, List.getElem?_eq_getElem (by omega)⟩
  obtain ⟨p, ra, rc, rfl, hx, hrc, hr⟩ := (hl.mono hJ) i s hs
  unfold svCells at hx
  have hi16 := bad_le hok hi
  have hsm := hfit s (List.mem_of_getElem? hs)
  have hln : (l.take i).length = i := by rw [List.length_take]; omega
  have hnx : ((ords l).take (i + 1)).map F64 = ((ords l).take i).map F64 ++ [F64 s.ord] := by
   rw [List.take_add_one, ords, List.getElem?_map, hs, List.map_append]; rfl
  have htn : l.take (i + 1) = l.take i ++ [s] := by rw [List.take_add_one, hs]; rfl
  obtain ⟨ea, ec, rfl, hec, _⟩ := hS.vecSlice (k := 0) rfl
  obtain ⟨oa, oc, rfl, hoc, _⟩ := hS.vecSlice (k := 1) rfl
  refine WC.region ?_
  refine WL.val (.move (.of rfl)) rfl ?_
  first | refine WL.val (.indexAddr (.of rfl) (.of rfl) (by omega) (by omega) Tryz.underlying22 Tryz.sizeOf37) rfl ?_ | refine WL.val (.indexAddrI (.of rfl) (.of rfl) (by omega) (by omega) Tryz.underlying22 Tryz.sizeOf37) rfl ?_
  first | refine WL.val (.ldsW (cs := [_, _, _, _, _, _, _, _]) (.of rfl) hS (k := 0) rfl Tryz.isAgg37 Tryz.sizeOf37 rfl) rfl ?_ | refine WL.val (.lds (vs := [_, _, _, _, _, _, _, _]) (.of rfl) hS (k := 0) rfl Tryz.isAgg37 Tryz.sizeOf37 rfl (fun _ _ h => h)) rfl ?_ | refine WL.val (.ldsW (cs := [_, _, _, _, _, _, _, _]) (.of rfl) hS (k := 1) rfl Tryz.isAgg37 Tryz.sizeOf37 rfl) rfl ?_ | refine WL.val (.lds (vs := [_, _, _, _, _, _, _, _]) (.of rfl) hS (k := 1) rfl Tryz.isAgg37 Tryz.sizeOf37 rfl (fun _ _ h => h)) rfl ?_ | refine WL.val (.ldsI (.of rfl) hS hx Tryz.isAgg37 Tryz.sizeOf37 rfl (fun _ _ h => h)) rfl ?_ | refine WL.val (.ldsI (.of rfl) hS (At.add hx _) Tryz.isAgg37 Tryz.sizeOf37 rfl (fun _ _ h => h)) rfl ?_
  refine WL.allocA (cs := [_, _, _, _, _, _, _, _]) hS Tryz.zeroValue37 rfl ?_
  clear hS; intro b8 w hS
  refine WL.val (.assign (.of rfl)) rfl ?_
  first | refine WL.stA hS (k := 0) rfl (.of rfl) (.of rfl) rfl Tryz.sizeOf37 rfl (by simp) ?_ | refine WL.stA hS (k := 1) rfl (.of rfl) (.of rfl) rfl Tryz.sizeOf37 rfl (by simp) ?_ | refine WL.stA hS (k := 2) rfl (.of rfl) (.of rfl) rfl Tryz.sizeOf37 rfl (by simp) ?_
  clear hS; intro w hS; try dsimp only [List.set] at hS
  try simp only [List.take_zero, List.nil_append, List.append_nil, List.drop_succ_cons, List.drop_zero, List.drop_nil, Nat.zero_add] at hS
  refine WL.nil ?_
  refine WC.seq ?_
  refine WC.region ?_
  first | refine WL.val (.ldsW (cs := [_, _, _, _, _, _, _, _]) (.of rfl) hS (k := 0) rfl Tryz.isAgg37 Tryz.sizeOf37 rfl) rfl ?_ | refine WL.val (.lds (vs := [_, _, _, _, _, _, _, _]) (.of rfl) hS (k := 0) rfl Tryz.isAgg37 Tryz.sizeOf37 rfl (fun _ _ h => h)) rfl ?_ | refine WL.val (.ldsW (cs := [_, _, _, _, _, _, _, _]) (.of rfl) hS (k := 1) rfl Tryz.isAgg37 Tryz.sizeOf37 rfl) rfl ?_ | refine WL.val (.lds (vs := [_, _, _, _, _, _, _, _]) (.of rfl) hS (k := 1) rfl Tryz.isAgg37 Tryz.sizeOf37 rfl (fun _ _ h => h)) rfl ?_ | refine WL.val (.ldsW (cs := [_, _, _, _, _, _, _, _]) (.of rfl) hS (k := 2) rfl Tryz.isAgg37 Tryz.sizeOf37 rfl) rfl ?_ | refine WL.val (.lds (vs := [_, _, _, _, _, _, _, _]) (.of rfl) hS (k := 2) rfl Tryz.isAgg37 Tryz.sizeOf37 rfl (fun _ _ h => h)) rfl ?_ | refine WL.val (.ldsI (.of rfl) hS hx Tryz.isAgg37 Tryz.sizeOf37 rfl (fun _ _ h => h)) rfl ?_ | refine WL.val (.ldsI (.of rfl) hS (At.add hx _) Tryz.isAgg37 Tryz.sizeOf37 rfl (fun _ _ h => h)) rfl ?_
  refine WL.val (.move (.of rfl)) rfl ?_
  refine WL.call Tryz.func26 rfl (evs_cons (.of rfl) (evs_cons (.of rfl) evs_nil)) rfl (made_n s ra rc hrc hsm.2.2 hsm.1 hsm.2.1 ea ec (l.take i) i hln (by omega) B _ J hr _ (fun w h => ents_n h hln (k := 1) rfl h10 hEE) hS) ?_
  clear hS
  rintro _ w ⟨J2, cs, code, hJ2, rfl, hcode, hcs10, hall, hent, hS⟩
  refine WL.val (.move (.of rfl)) rfl ?_
  refine WL.val (.extract (.of rfl) rfl) rfl ?_
  refine WL.val (.extract (.of rfl) rfl) rfl ?_
  refine WL.allocA (cs := [_, _, _, _, _, _, _, _, _, _]) hS Tryz.zeroValue63 rfl ?_
  clear hS; intro b9 w hS
  refine WL.stA hS (k := 0) rfl (.of rfl) (.of rfl) hall Tryz.sizeOf63 hcs10 (by simp) ?_
  clear hS; intro w hS; try dsimp only [List.set] at hS
  try simp only [List.take_zero, List.nil_append, List.append_nil, List.drop_succ_cons, List.drop_zero, List.drop_nil, Nat.zero_add] at hS
  refine WL.val (.assign (.of rfl)) rfl ?_
  refine WL.nil ?_
  refine WC.seq ?_
  refine WC.seq ?_
  refine WC.region ?_
  refine WL.val (.move (.of rfl)) rfl ?_
  refine WL.val (.neq (.of rfl) (.of rfl)) rfl ?_
  refine WL.nil ?_
  refine WC.cond rfl (fun hb28 => ?_) (fun hb28 => ?_)
  ·
   have hc28 := hb28; try simp only [Gk.cs0] at hc28
   refine WC.seq ?_
   refine WC.region ?_
   refine WL.val (.move (.of rfl)) rfl ?_
   refine WL.val (.move (.of rfl)) rfl ?_
   refine WL.val (.assign (.of rfl)) rfl ?_
   refine WL.val (.assign (.of rfl)) rfl ?_
   refine WL.val (.assign (.of rfl)) rfl ?_
   refine WL.nil ?_
   refine WC.ret ?_
   refine ret3 Tryz.results10 rfl rfl rfl ?_
   have hb2 := badO_bad (l := l) (i := i) (s := s) hi16 (by omega)
   have hbn : bad l i s ≠ 0 := by rw [← hb2, ← hcode]; omega
   have hw := wrong_hit hok hs hbn
   refine ⟨_, rfl, J2, Le.trans hJ hJ2, (((hS.drop (k := 0) rfl).drop (k := 0) rfl).drop (k := 0) rfl).drop (k := 0) rfl, .inl ⟨by rw [hw]; exact hbn, ?_⟩⟩
   rw [hw, hcode, hb2]
   rfl
  ·
   have hc28 := hb28; try simp only [Gk.cs0] at hc28
   refine WC.skip ?_
   have hcode0 : code = 0 := by omega
   obtain ⟨sa, sc, pp, qq, Q, T, rfl, hsc, hent⟩ := hent hcode0
   have hent2 : EntAt J2 s (entCells s sa sc pp qq) := ⟨sa, sc, pp, qq, Q, T, rfl, hsc, hent⟩
   have hbad0 : bad l i s = 0 := by rw [← badO_bad (l := l) (i := i) hi16 (by omega), ← hcode, hcode0]
   unfold entCells at hS
   refine WC.drawn (fun w => ∃ R, Sat B w J2 (blk b9 [I64 s.id, F64 s.ord, S s.urls, .bool s.login, .bool s.proxy, .bool s.back, S s.calls, .slice sa s.rel.length sc, .pointer (some pp), .pointer (some qq)] 63 :: blk b8 [I64 s.id, F64 s.ord, S s.urls, .bool s.login, .bool s.proxy, .bool s.back, S s.calls, .slice ra s.rel.length rc] 37 :: R)) (fun j => !([].contains j)) (by kernel_rfl) ?_
   replace hS := hS.drew; generalize w.drew = w at hS ⊢
   have hH : ∃ R, Sat B w J2 (blk b9 [I64 s.id, F64 s.ord, S s.urls, .bool s.login, .bool s.proxy, .bool s.back, S s.calls, .slice sa s.rel.length sc, .pointer (some pp), .pointer (some qq)] 63 :: blk b8 [I64 s.id, F64 s.ord, S s.urls, .bool s.login, .bool s.proxy, .bool s.back, S s.calls, .slice ra s.rel.length rc] 37 :: R) := ⟨_, ((hS.pick 1 rfl).pick 1 rfl)⟩
   refine WD.takeP (i := 0) rfl (by kernel_rfl) (by kernel_rfl) (by kernel_rfl) (fun w => (.move (.of rfl))) rfl ?_
   refine WD.take (i := 1) rfl (by kernel_rfl) (by kernel_rfl) (by kernel_rfl) (by kernel_rfl) hH (fun w ⟨R, hS⟩ => (by first | exact (.ldsW (cs := [_, _, _, _, _, _, _, _, _, _]) (.of rfl) hS (k := 0) rfl Tryz.isAgg63 Tryz.sizeOf63 rfl) | exact (.lds (vs := [_, _, _, _, _, _, _, _, _, _]) (.of rfl) hS (k := 0) rfl Tryz.isAgg63 Tryz.sizeOf63 rfl (fun _ _ h => h)) | exact (.ldsW (cs := [_, _, _, _, _, _, _, _, _, _]) (.of rfl) hS (k := 1) rfl Tryz.isAgg63 Tryz.sizeOf63 rfl) | exact (.lds (vs := [_, _, _, _, _, _, _, _, _, _]) (.of rfl) hS (k := 1) rfl Tryz.isAgg63 Tryz.sizeOf63 rfl (fun _ _ h => h)) | exact (.ldsI (.of rfl) hS hx Tryz.isAgg63 Tryz.sizeOf63 rfl (fun _ _ h => h)) | exact (.ldsI (.of rfl) hS (At.add hx _) Tryz.isAgg63 Tryz.sizeOf63 rfl (fun _ _ h => h)))) rfl ?_
   refine WD.takeP (i := 4) rfl (by kernel_rfl) (by kernel_rfl) (by kernel_rfl) (fun w => (.move (.of rfl))) rfl ?_
   refine WD.takeP (i := 5) rfl (by kernel_rfl) (by kernel_rfl) (by kernel_rfl) (fun w => (by first | exact .fieldAddr 1 (.of rfl) Tryz.underlying37 rfl rfl Tryz.sizeOf34 rfl | exact .fieldAddrI 1 (.of rfl) Tryz.underlying37 rfl rfl Tryz.sizeOf34 rfl)) rfl ?_
   refine WD.take (i := 6) rfl (by kernel_rfl) (by kernel_rfl) (by kernel_rfl) (by kernel_rfl) hH (fun w ⟨R, hS⟩ => (by first | exact (.ld (.of rfl) hS (k := 0) rfl Tryz.isAgg34 rfl) | exact (.ld (.of rfl) hS (k := 1) rfl Tryz.isAgg34 rfl) | exact (.ldI (.of rfl) hS (At.add hx _) Tryz.isAgg34 rfl))) rfl ?_
   refine WD.branch [2, 7] (by kernel_rfl) rfl (WO.cons rfl ?_ (WO.cons rfl ?_ (WO.nil)))
   ·
    refine WL.buildSlice (cs := [_, _, _, _, _, _, _, _, _, _]) hS (parts_cons (.of rfl) parts_nil) Tryz.underlying60 Tryz.sizeOf63 Tryz.zeroValue63 rfl rfl rfl rfl ?_
    clear hS; intro b33 w hS
    refine WL.nil ?_
    clear hH
    have hH : ∃ R, Sat B w J2 (blk b9 [I64 s.id, F64 s.ord, S s.urls, .bool s.login, .bool s.proxy, .bool s.back, S s.calls, .slice sa s.rel.length sc, .pointer (some pp), .pointer (some qq)] 63 :: blk b8 [I64 s.id, F64 s.ord, S s.urls, .bool s.login, .bool s.proxy, .bool s.back, S s.calls, .slice ra s.rel.length rc] 37 :: R) := ⟨_, ((hS.pick 2 rfl).pick 2 rfl)⟩
    refine And.intro (by intro _ _; exact hH) ?_
    refine WD.branch [3, 7] (by kernel_rfl) rfl (WO.cons rfl ?_ (WO.cons rfl ?_ (WO.nil)))
    ·
     first | refine WL.append (size := 10) (bytes := 96) hS (.of rfl) (.of rfl) (k := 0) rfl Tryz.underlying60 info63_10 rfl rfl rfl rfl rfl rfl rfl ⟨by omega, by unfold maxLen; omega⟩ rfl ?_ | refine WL.append (size := 10) (bytes := 96) hS (.of rfl) (.of rfl) (k := 1) rfl Tryz.underlying60 info63_10 rfl rfl rfl rfl rfl rfl rfl ⟨by omega, by unfold maxLen; omega⟩ rfl ?_ | refine WL.append (size := 10) (bytes := 96) hS (.of rfl) (.of rfl) (k := 2) rfl Tryz.underlying60 info63_10 rfl rfl rfl rfl rfl rfl rfl ⟨by omega, by unfold maxLen; omega⟩ rfl ?_ | refine WL.append (size := 10) (bytes := 96) hS (.of rfl) (.of rfl) (k := 3) rfl Tryz.underlying60 info63_10 rfl rfl rfl rfl rfl rfl rfl ⟨by omega, by unfold maxLen; omega⟩ rfl ?_
     clear hS; intro v34 w hS; try dsimp only [List.set] at hS
     first | obtain ⟨a34, c34, rfl, hcap34, _⟩ := hS.vecSlice (k := 0) (v := v34) rfl | obtain ⟨a34, c34, rfl, hcap34, _⟩ := hS.vecSlice (k := 1) (v := v34) rfl | obtain ⟨a34, c34, rfl, hcap34, _⟩ := hS.vecSlice (k := 2) (v := v34) rfl | obtain ⟨a34, c34, rfl, hcap34, _⟩ := hS.vecSlice (k := 3) (v := v34) rfl
     refine WL.nil ?_
     clear hH
     have hH : ∃ R, Sat B w J2 (blk b9 [I64 s.id, F64 s.ord, S s.urls, .bool s.login, .bool s.proxy, .bool s.back, S s.calls, .slice sa s.rel.length sc, .pointer (some pp), .pointer (some qq)] 63 :: blk b8 [I64 s.id, F64 s.ord, S s.urls, .bool s.login, .bool s.proxy, .bool s.back, S s.calls, .slice ra s.rel.length rc] 37 :: R) := ⟨_, ((hS.pick 1 rfl).pick 1 rfl)⟩
     refine And.intro (by intro _ _; exact hH) ?_
     refine WD.branch [7] (by kernel_rfl) rfl (WO.cons rfl ?_ (WO.nil))
     refine WL.buildSlice (cs := [_]) hS (parts_cons (.of rfl) parts_nil) Tryz.underlying61 Tryz.sizeOf34 Tryz.zeroValue34 rfl rfl rfl rfl ?_
     clear hS; intro b38 w hS
     refine WL.nil ?_
     clear hH
     have hH : ∃ R, Sat B w J2 (blk b9 [I64 s.id, F64 s.ord, S s.urls, .bool s.login, .bool s.proxy, .bool s.back, S s.calls, .slice sa s.rel.length sc, .pointer (some pp), .pointer (some qq)] 63 :: blk b8 [I64 s.id, F64 s.ord, S s.urls, .bool s.login, .bool s.proxy, .bool s.back, S s.calls, .slice ra s.rel.length rc] 37 :: R) := ⟨_, ((hS.pick 2 rfl).pick 2 rfl)⟩
     refine And.intro (by intro _ _; exact hH) ?_
     refine WD.branch [8] (by kernel_rfl) rfl (WO.cons rfl ?_ (WO.nil))
     first | refine WL.append (size := 1) (bytes := 8) hS (.of rfl) (.of rfl) (k := 0) rfl Tryz.underlying61 info34_10 rfl rfl rfl rfl rfl rfl rfl ⟨by omega, by unfold maxLen; omega⟩ rfl ?_ | refine WL.append (size := 1) (bytes := 8) hS (.of rfl) (.of rfl) (k := 1) rfl Tryz.underlying61 info34_10 rfl rfl rfl rfl rfl rfl rfl ⟨by omega, by unfold maxLen; omega⟩ rfl ?_ | refine WL.append (size := 1) (bytes := 8) hS (.of rfl) (.of rfl) (k := 2) rfl Tryz.underlying61 info34_10 rfl rfl rfl rfl rfl rfl rfl ⟨by omega, by unfold maxLen; omega⟩ rfl ?_ | refine WL.append (size := 1) (bytes := 8) hS (.of rfl) (.of rfl) (k := 3) rfl Tryz.underlying61 info34_10 rfl rfl rfl rfl rfl rfl rfl ⟨by omega, by unfold maxLen; omega⟩ rfl ?_
     clear hS; intro v39 w hS; try dsimp only [List.set] at hS
     first | obtain ⟨a39, c39, rfl, hcap39, _⟩ := hS.vecSlice (k := 0) (v := v39) rfl | obtain ⟨a39, c39, rfl, hcap39, _⟩ := hS.vecSlice (k := 1) (v := v39) rfl | obtain ⟨a39, c39, rfl, hcap39, _⟩ := hS.vecSlice (k := 2) (v := v39) rfl | obtain ⟨a39, c39, rfl, hcap39, _⟩ := hS.vecSlice (k := 3) (v := v39) rfl
     refine WL.nil ?_
     clear hH
     have hH : ∃ R, Sat B w J2 (blk b9 [I64 s.id, F64 s.ord, S s.urls, .bool s.login, .bool s.proxy, .bool s.back, S s.calls, .slice sa s.rel.length sc, .pointer (some pp), .pointer (some qq)] 63 :: blk b8 [I64 s.id, F64 s.ord, S s.urls, .bool s.login, .bool s.proxy, .bool s.back, S s.calls, .slice ra s.rel.length rc] 37 :: R) := ⟨_, ((hS.pick 1 rfl).pick 1 rfl)⟩
     refine And.intro (by intro _ _; exact hH) ?_
     refine WD.takeP (i := 9) rfl (by kernel_rfl) (by kernel_rfl) (by kernel_rfl) (fun w => (.assign (.of rfl))) rfl ?_
     refine WD.takeP (i := 10) rfl (by kernel_rfl) (by kernel_rfl) (by kernel_rfl) (fun w => (.assign (.of rfl))) rfl ?_
     refine WD.done (by kernel_rfl) ?_
     refine WC.region ?_
     refine WL.val (.add (.of rfl) (.of rfl) ⟨by omega, by omega⟩) rfl ?_
     refine WL.val (.move (.of rfl)) rfl ?_
     refine WL.nil ?_
     have hfin := ((hS.drop (k := 0) rfl).drop (k := 0) rfl)
     refine ⟨(i + 1, J2, .slice a34 (i + 1) c34, .slice a39 (i + 1) c39, E ++ [entCells s sa sc pp qq]), ⟨rfl, rfl, rfl, rfl, rfl, trivial⟩, ⟨by (try dsimp only); omega, Le.trans hJ hJ2, by (try dsimp only); rw [List.length_append, hEl]; rfl, fun c hc => ?_, fun j u hu => ?_, fun j u hj hu => ?_, ?_⟩, by (try dsimp only); omega⟩
     ·rcases List.mem_append.1 hc with h | h
      ·exact h10 c h
      ·simp at h; subst h; rfl
     ·(try dsimp only at hu)
      rw [htn] at hu
      rcases Nat.lt_or_ge j i with h1 | h1
      ·rw [List.getElem?_append_left (by omega)] at hu
       obtain ⟨c, e1, e2⟩ := hEE j u hu
       exact ⟨c, by rw [List.getElem?_append_left (by omega)]; exact e1, e2.mono hJ2⟩
      ·rw [List.getElem?_append_right (by omega), hln] at hu
       have hj0 : j - i = 0 := by have := (List.getElem?_eq_some_iff.1 hu).1; simp at this; omega
       rw [hj0] at hu
       cases hu
       exact ⟨_, by rw [List.getElem?_append_right (by omega), hEl, hj0]; rfl, hent2⟩
     ·rcases Nat.lt_or_ge j i with h1 | h1
      ·exact hok j u h1 hu
      ·have e : j = i := by (try dsimp only at hj); omega
       subst e
       rw [hs] at hu; cases hu
       exact hbad0
     ·(try dsimp only)
      rw [hnx, List.flatten_append]
      simpa [entCells] using hfin
    ·
     refine WL.buildSlice (cs := [_]) hS (parts_cons (.of rfl) parts_nil) Tryz.underlying61 Tryz.sizeOf34 Tryz.zeroValue34 rfl rfl rfl rfl ?_
     clear hS; intro b38 w hS
     refine WL.nil ?_
     clear hH
     have hH : ∃ R, Sat B w J2 (blk b9 [I64 s.id, F64 s.ord, S s.urls, .bool s.login, .bool s.proxy, .bool s.back, S s.calls, .slice sa s.rel.length sc, .pointer (some pp), .pointer (some qq)] 63 :: blk b8 [I64 s.id, F64 s.ord, S s.urls, .bool s.login, .bool s.proxy, .bool s.back, S s.calls, .slice ra s.rel.length rc] 37 :: R) := ⟨_, ((hS.pick 3 rfl).pick 3 rfl)⟩
     refine And.intro (by intro _ _; exact hH) ?_
     refine WD.branch [3] (by kernel_rfl) rfl (WO.cons rfl ?_ (WO.nil))
     replace hS := hS.pick 1 rfl; try dsimp only [List.eraseIdx] at hS
     first | refine WL.append (size := 10) (bytes := 96) hS (.of rfl) (.of rfl) (k := 0) rfl Tryz.underlying60 info63_10 rfl rfl rfl rfl rfl rfl rfl ⟨by omega, by unfold maxLen; omega⟩ rfl ?_ | refine WL.append (size := 10) (bytes := 96) hS (.of rfl) (.of rfl) (k := 1) rfl Tryz.underlying60 info63_10 rfl rfl rfl rfl rfl rfl rfl ⟨by omega, by unfold maxLen; omega⟩ rfl ?_ | refine WL.append (size := 10) (bytes := 96) hS (.of rfl) (.of rfl) (k := 2) rfl Tryz.underlying60 info63_10 rfl rfl rfl rfl rfl rfl rfl ⟨by omega, by unfold maxLen; omega⟩ rfl ?_ | refine WL.append (size := 10) (bytes := 96) hS (.of rfl) (.of rfl) (k := 3) rfl Tryz.underlying60 info63_10 rfl rfl rfl rfl rfl rfl rfl ⟨by omega, by unfold maxLen; omega⟩ rfl ?_ | refine WL.append (size := 10) (bytes := 96) hS (.of rfl) (.of rfl) (k := 4) rfl Tryz.underlying60 info63_10 rfl rfl rfl rfl rfl rfl rfl ⟨by omega, by unfold maxLen; omega⟩ rfl ?_
     clear hS; intro v34 w hS; try dsimp only [List.set] at hS
     first | obtain ⟨a34, c34, rfl, hcap34, _⟩ := hS.vecSlice (k := 0) (v := v34) rfl | obtain ⟨a34, c34, rfl, hcap34, _⟩ := hS.vecSlice (k := 1) (v := v34) rfl | obtain ⟨a34, c34, rfl, hcap34, _⟩ := hS.vecSlice (k := 2) (v := v34) rfl | obtain ⟨a34, c34, rfl, hcap34, _⟩ := hS.vecSlice (k := 3) (v := v34) rfl | obtain ⟨a34, c34, rfl, hcap34, _⟩ := hS.vecSlice (k := 4) (v := v34) rfl
     refine WL.nil ?_
     clear hH
     have hH : ∃ R, Sat B w J2 (blk b9 [I64 s.id, F64 s.ord, S s.urls, .bool s.login, .bool s.proxy, .bool s.back, S s.calls, .slice sa s.rel.length sc, .pointer (some pp), .pointer (some qq)] 63 :: blk b8 [I64 s.id, F64 s.ord, S s.urls, .bool s.login, .bool s.proxy, .bool s.back, S s.calls, .slice ra s.rel.length rc] 37 :: R) := ⟨_, ((hS.pick 2 rfl).pick 2 rfl)⟩
     refine And.intro (by intro _ _; exact hH) ?_
     refine WD.branch [8] (by kernel_rfl) rfl (WO.cons rfl ?_ (WO.nil))
     first | refine WL.append (size := 1) (bytes := 8) hS (.of rfl) (.of rfl) (k := 0) rfl Tryz.underlying61 info34_10 rfl rfl rfl rfl rfl rfl rfl ⟨by omega, by unfold maxLen; omega⟩ rfl ?_ | refine WL.append (size := 1) (bytes := 8) hS (.of rfl) (.of rfl) (k := 1) rfl Tryz.underlying61 info34_10 rfl rfl rfl rfl rfl rfl rfl ⟨by omega, by unfold maxLen; omega⟩ rfl ?_ | refine WL.append (size := 1) (bytes := 8) hS (.of rfl) (.of rfl) (k := 2) rfl Tryz.underlying61 info34_10 rfl rfl rfl rfl rfl rfl rfl ⟨by omega, by unfold maxLen; omega⟩ rfl ?_ | refine WL.append (size := 1) (bytes := 8) hS (.of rfl) (.of rfl) (k := 3) rfl Tryz.underlying61 info34_10 rfl rfl rfl rfl rfl rfl rfl ⟨by omega, by unfold maxLen; omega⟩ rfl ?_
     clear hS; intro v39 w hS; try dsimp only [List.set] at hS
     first | obtain ⟨a39, c39, rfl, hcap39, _⟩ := hS.vecSlice (k := 0) (v := v39) rfl | obtain ⟨a39, c39, rfl, hcap39, _⟩ := hS.vecSlice (k := 1) (v := v39) rfl | obtain ⟨a39, c39, rfl, hcap39, _⟩ := hS.vecSlice (k := 2) (v := v39) rfl | obtain ⟨a39, c39, rfl, hcap39, _⟩ := hS.vecSlice (k := 3) (v := v39) rfl
     refine WL.nil ?_
     clear hH
     have hH : ∃ R, Sat B w J2 (blk b9 [I64 s.id, F64 s.ord, S s.urls, .bool s.login, .bool s.proxy, .bool s.back, S s.calls, .slice sa s.rel.length sc, .pointer (some pp), .pointer (some qq)] 63 :: blk b8 [I64 s.id, F64 s.ord, S s.urls, .bool s.login, .bool s.proxy, .bool s.back, S s.calls, .slice ra s.rel.length rc] 37 :: R) := ⟨_, ((hS.pick 1 rfl).pick 1 rfl)⟩
     refine And.intro (by intro _ _; exact hH) ?_
     refine WD.takeP (i := 9) rfl (by kernel_rfl) (by kernel_rfl) (by kernel_rfl) (fun w => (.assign (.of rfl))) rfl ?_
     refine WD.takeP (i := 10) rfl (by kernel_rfl) (by kernel_rfl) (by kernel_rfl) (fun w => (.assign (.of rfl))) rfl ?_
     refine WD.done (by kernel_rfl) ?_
     refine WC.region ?_
     refine WL.val (.add (.of rfl) (.of rfl) ⟨by omega, by omega⟩) rfl ?_
     refine WL.val (.move (.of rfl)) rfl ?_
     refine WL.nil ?_
     have hfin := ((hS.drop (k := 0) rfl).drop (k := 0) rfl)
     refine ⟨(i + 1, J2, .slice a34 (i + 1) c34, .slice a39 (i + 1) c39, E ++ [entCells s sa sc pp qq]), ⟨rfl, rfl, rfl, rfl, rfl, trivial⟩, ⟨by (try dsimp only); omega, Le.trans hJ hJ2, by (try dsimp only); rw [List.length_append, hEl]; rfl, fun c hc => ?_, fun j u hu => ?_, fun j u hj hu => ?_, ?_⟩, by (try dsimp only); omega⟩
     ·rcases List.mem_append.1 hc with h | h
      ·exact h10 c h
      ·simp at h; subst h; rfl
     ·(try dsimp only at hu)
      rw [htn] at hu
      rcases Nat.lt_or_ge j i with h1 | h1
      ·rw [List.getElem?_append_left (by omega)] at hu
       obtain ⟨c, e1, e2⟩ := hEE j u hu
       exact ⟨c, by rw [List.getElem?_append_left (by omega)]; exact e1, e2.mono hJ2⟩
      ·rw [List.getElem?_append_right (by omega), hln] at hu
       have hj0 : j - i = 0 := by have := (List.getElem?_eq_some_iff.1 hu).1; simp at this; omega
       rw [hj0] at hu
       cases hu
       exact ⟨_, by rw [List.getElem?_append_right (by omega), hEl, hj0]; rfl, hent2⟩
     ·rcases Nat.lt_or_ge j i with h1 | h1
      ·exact hok j u h1 hu
      ·have e : j = i := by (try dsimp only at hj); omega
       subst e
       rw [hs] at hu; cases hu
       exact hbad0
     ·(try dsimp only)
      rw [hnx, List.flatten_append]
      simpa [entCells] using hfin
   ·
    refine WL.buildSlice (cs := [_]) hS (parts_cons (.of rfl) parts_nil) Tryz.underlying61 Tryz.sizeOf34 Tryz.zeroValue34 rfl rfl rfl rfl ?_
    clear hS; intro b38 w hS
    refine WL.nil ?_
    clear hH
    have hH : ∃ R, Sat B w J2 (blk b9 [I64 s.id, F64 s.ord, S s.urls, .bool s.login, .bool s.proxy, .bool s.back, S s.calls, .slice sa s.rel.length sc, .pointer (some pp), .pointer (some qq)] 63 :: blk b8 [I64 s.id, F64 s.ord, S s.urls, .bool s.login, .bool s.proxy, .bool s.back, S s.calls, .slice ra s.rel.length rc] 37 :: R) := ⟨_, ((hS.pick 2 rfl).pick 2 rfl)⟩
    refine And.intro (by intro _ _; exact hH) ?_
    refine WD.branch [2] (by kernel_rfl) rfl (WO.cons rfl ?_ (WO.nil))
    refine WL.buildSlice (cs := [_, _, _, _, _, _, _, _, _, _]) hS (parts_cons (.of rfl) parts_nil) Tryz.underlying60 Tryz.sizeOf63 Tryz.zeroValue63 rfl rfl rfl rfl ?_
    clear hS; intro b33 w hS
    refine WL.nil ?_
    clear hH
    have hH : ∃ R, Sat B w J2 (blk b9 [I64 s.id, F64 s.ord, S s.urls, .bool s.login, .bool s.proxy, .bool s.back, S s.calls, .slice sa s.rel.length sc, .pointer (some pp), .pointer (some qq)] 63 :: blk b8 [I64 s.id, F64 s.ord, S s.urls, .bool s.login, .bool s.proxy, .bool s.back, S s.calls, .slice ra s.rel.length rc] 37 :: R) := ⟨_, ((hS.pick 3 rfl).pick 3 rfl)⟩
    refine And.intro (by intro _ _; exact hH) ?_
    refine WD.branch [3] (by kernel_rfl) rfl (WO.cons rfl ?_ (WO.nil))
    first | refine WL.append (size := 10) (bytes := 96) hS (.of rfl) (.of rfl) (k := 0) rfl Tryz.underlying60 info63_10 rfl rfl rfl rfl rfl rfl rfl ⟨by omega, by unfold maxLen; omega⟩ rfl ?_ | refine WL.append (size := 10) (bytes := 96) hS (.of rfl) (.of rfl) (k := 1) rfl Tryz.underlying60 info63_10 rfl rfl rfl rfl rfl rfl rfl ⟨by omega, by unfold maxLen; omega⟩ rfl ?_ | refine WL.append (size := 10) (bytes := 96) hS (.of rfl) (.of rfl) (k := 2) rfl Tryz.underlying60 info63_10 rfl rfl rfl rfl rfl rfl rfl ⟨by omega, by unfold maxLen; omega⟩ rfl ?_ | refine WL.append (size := 10) (bytes := 96) hS (.of rfl) (.of rfl) (k := 3) rfl Tryz.underlying60 info63_10 rfl rfl rfl rfl rfl rfl rfl ⟨by omega, by unfold maxLen; omega⟩ rfl ?_ | refine WL.append (size := 10) (bytes := 96) hS (.of rfl) (.of rfl) (k := 4) rfl Tryz.underlying60 info63_10 rfl rfl rfl rfl rfl rfl rfl ⟨by omega, by unfold maxLen; omega⟩ rfl ?_
    clear hS; intro v34 w hS; try dsimp only [List.set] at hS
    first | obtain ⟨a34, c34, rfl, hcap34, _⟩ := hS.vecSlice (k := 0) (v := v34) rfl | obtain ⟨a34, c34, rfl, hcap34, _⟩ := hS.vecSlice (k := 1) (v := v34) rfl | obtain ⟨a34, c34, rfl, hcap34, _⟩ := hS.vecSlice (k := 2) (v := v34) rfl | obtain ⟨a34, c34, rfl, hcap34, _⟩ := hS.vecSlice (k := 3) (v := v34) rfl | obtain ⟨a34, c34, rfl, hcap34, _⟩ := hS.vecSlice (k := 4) (v := v34) rfl
    refine WL.nil ?_
    clear hH
    have hH : ∃ R, Sat B w J2 (blk b9 [I64 s.id, F64 s.ord, S s.urls, .bool s.login, .bool s.proxy, .bool s.back, S s.calls, .slice sa s.rel.length sc, .pointer (some pp), .pointer (some qq)] 63 :: blk b8 [I64 s.id, F64 s.ord, S s.urls, .bool s.login, .bool s.proxy, .bool s.back, S s.calls, .slice ra s.rel.length rc] 37 :: R) := ⟨_, ((hS.pick 2 rfl).pick 2 rfl)⟩
    refine And.intro (by intro _ _; exact hH) ?_
    refine WD.branch [8] (by kernel_rfl) rfl (WO.cons rfl ?_ (WO.nil))
    first | refine WL.append (size := 1) (bytes := 8) hS (.of rfl) (.of rfl) (k := 0) rfl Tryz.underlying61 info34_10 rfl rfl rfl rfl rfl rfl rfl ⟨by omega, by unfold maxLen; omega⟩ rfl ?_ | refine WL.append (size := 1) (bytes := 8) hS (.of rfl) (.of rfl) (k := 1) rfl Tryz.underlying61 info34_10 rfl rfl rfl rfl rfl rfl rfl ⟨by omega, by unfold maxLen; omega⟩ rfl ?_ | refine WL.append (size := 1) (bytes := 8) hS (.of rfl) (.of rfl) (k := 2) rfl Tryz.underlying61 info34_10 rfl rfl rfl rfl rfl rfl rfl ⟨by omega, by unfold maxLen; omega⟩ rfl ?_ | refine WL.append (size := 1) (bytes := 8) hS (.of rfl) (.of rfl) (k := 3) rfl Tryz.underlying61 info34_10 rfl rfl rfl rfl rfl rfl rfl ⟨by omega, by unfold maxLen; omega⟩ rfl ?_
    clear hS; intro v39 w hS; try dsimp only [List.set] at hS
    first | obtain ⟨a39, c39, rfl, hcap39, _⟩ := hS.vecSlice (k := 0) (v := v39) rfl | obtain ⟨a39, c39, rfl, hcap39, _⟩ := hS.vecSlice (k := 1) (v := v39) rfl | obtain ⟨a39, c39, rfl, hcap39, _⟩ := hS.vecSlice (k := 2) (v := v39) rfl | obtain ⟨a39, c39, rfl, hcap39, _⟩ := hS.vecSlice (k := 3) (v := v39) rfl
    refine WL.nil ?_
    clear hH
    have hH : ∃ R, Sat B w J2 (blk b9 [I64 s.id, F64 s.ord, S s.urls, .bool s.login, .bool s.proxy, .bool s.back, S s.calls, .slice sa s.rel.length sc, .pointer (some pp), .pointer (some qq)] 63 :: blk b8 [I64 s.id, F64 s.ord, S s.urls, .bool s.login, .bool s.proxy, .bool s.back, S s.calls, .slice ra s.rel.length rc] 37 :: R) := ⟨_, ((hS.pick 1 rfl).pick 1 rfl)⟩
    refine And.intro (by intro _ _; exact hH) ?_
    refine WD.takeP (i := 9) rfl (by kernel_rfl) (by kernel_rfl) (by kernel_rfl) (fun w => (.assign (.of rfl))) rfl ?_
    refine WD.takeP (i := 10) rfl (by kernel_rfl) (by kernel_rfl) (by kernel_rfl) (fun w => (.assign (.of rfl))) rfl ?_
    refine WD.done (by kernel_rfl) ?_
    refine WC.region ?_
    refine WL.val (.add (.of rfl) (.of rfl) ⟨by omega, by omega⟩) rfl ?_
    refine WL.val (.move (.of rfl)) rfl ?_
    refine WL.nil ?_
    have hfin := ((hS.drop (k := 0) rfl).drop (k := 0) rfl)
    refine ⟨(i + 1, J2, .slice a34 (i + 1) c34, .slice a39 (i + 1) c39, E ++ [entCells s sa sc pp qq]), ⟨rfl, rfl, rfl, rfl, rfl, trivial⟩, ⟨by (try dsimp only); omega, Le.trans hJ hJ2, by (try dsimp only); rw [List.length_append, hEl]; rfl, fun c hc => ?_, fun j u hu => ?_, fun j u hj hu => ?_, ?_⟩, by (try dsimp only); omega⟩
    ·rcases List.mem_append.1 hc with h | h
     ·exact h10 c h
     ·simp at h; subst h; rfl
    ·(try dsimp only at hu)
     rw [htn] at hu
     rcases Nat.lt_or_ge j i with h1 | h1
     ·rw [List.getElem?_append_left (by omega)] at hu
      obtain ⟨c, e1, e2⟩ := hEE j u hu
      exact ⟨c, by rw [List.getElem?_append_left (by omega)]; exact e1, e2.mono hJ2⟩
     ·rw [List.getElem?_append_right (by omega), hln] at hu
      have hj0 : j - i = 0 := by have := (List.getElem?_eq_some_iff.1 hu).1; simp at this; omega
      rw [hj0] at hu
      cases hu
      exact ⟨_, by rw [List.getElem?_append_right (by omega), hEl, hj0]; rfl, hent2⟩
    ·rcases Nat.lt_or_ge j i with h1 | h1
     ·exact hok j u h1 hu
     ·have e : j = i := by (try dsimp only at hj); omega
      subst e
      rw [hs] at hu; cases hu
      exact hbad0
    ·(try dsimp only)
     rw [hnx, List.flatten_append]
     simpa [entCells] using hfin
 ·
  have hc17 := hb17; try simp only [Gk.cs0] at hc17
  refine WC.exit ?_
  refine WC.seq ?_
  have hin : i = l.length := by omega
  subst hin
  have hol : (ords l).length = l.length := List.length_map ..
  rw [List.take_of_length_le (Nat.le_refl _)] at hEE
  rw [List.take_of_length_le (by omega)] at hS
  obtain ⟨oa, oc, rfl, hoc, _⟩ := hS.vecSlice (k := 1) rfl
  obtain ⟨ea, ec, rfl, hec, _⟩ := hS.vecSlice (k := 0) rfl
  obtain ⟨J1, hJ1, hOR, hS1⟩ := hS.freezeVec (k := 1) rfl
  try dsimp only [List.eraseIdx] at hS1
  obtain ⟨J2, hJ2, hER, hS2⟩ := hS1.freezeVec (k := 0) rfl
  clear hS hS1
  have hS := hS2
  clear hS2
  try dsimp only [List.eraseIdx] at hS
  replace hJ := Le.trans hJ (Le.trans hJ1 hJ2)
  replace hOR := hOR.mono hJ2
  replace hEE := fun j s h => let ⟨c, h1, h2⟩ := hEE j s h; (⟨c, h1, EntAt.mono h2 (Le.trans hJ1 hJ2)⟩ : ∃ c, E[j]? = some c ∧ EntAt J2 s c)
  refine WC.region ?_
  refine WL.val (.build (cs := [_]) parts_nil bld67_10 rfl) rfl ?_
  refine WL.boxA (cs := [_]) hS (.of rfl) rfl ?_
  clear hS; intro b42 w hS
  refine WL.val (.assign (.of rfl)) rfl ?_
  refine WL.nil ?_
  refine WC.seq ?_
  refine WC.seq ?_
  rw [← hol] at hOR ⊢
  refine WC.region ?_
  refine WL.val (.move (.of rfl)) rfl ?_
  refine WL.call Tryz.func27 rfl (evs_cons (.of rfl) evs_nil) rfl (Order_any (ords l) hom (by omega) oa oc B _ J2 hOR _ hS) ?_
  clear hS
  rintro _ w ⟨D, va, vc, rfl, hD, hS⟩
  obtain ⟨J3, hJ3, hDR, hS2⟩ := hS.freezeVec (k := 0) rfl
  clear hS
  have hS := hS2
  clear hS2
  try dsimp only [List.eraseIdx] at hS
  replace hJ := Le.trans hJ hJ3
  rw [hol] at hD hDR ⊢
  have hDl := hD.len
  refine WL.val (.lenSlice (.of rfl) Tryz.underlying68) rfl ?_
  refine WL.val (.move (.of rfl)) rfl ?_
  refine WL.nil ?_
  refine WC.block ?_
  replace hS := (hS.vecNil 63 10).pick 1 rfl
  try dsimp only [List.eraseIdx] at hS
  refine WC.loop (σ := Value × Nat) (fun ⟨kv, j⟩ => [(5, .slice ea l.length ec), (11, ptr b42 0), (44, .slice va l.length vc), (45, I64 (l.length : Nat)), (46, I64 (j : Nat))]) (fun ⟨kv, j⟩ w => j ≤ l.length ∧ Sat B w J3 (blk b42 [kv] 67 :: Vec 63 10 kv j (pickR E (D.take j)).flatten :: As)) (fun ⟨kv, j⟩ => l.length - j) (.slice none 0 0, 0) ⟨rfl, rfl, rfl, rfl, rfl, trivial⟩ ⟨Nat.zero_le _, hS⟩ ?_
  rintro ⟨kv, j⟩ w ⟨hj, hS⟩
  change WC _ _ _ _ [(5, .slice ea l.length ec), (11, ptr b42 0), (44, .slice va l.length vc), (45, I64 (l.length : Nat)), (46, I64 (j : Nat))] w
  refine WC.seq ?_
  refine WC.region ?_
  refine WL.val (.lss (.of rfl) (.of rfl)) rfl ?_
  refine WL.nil ?_
  refine WC.seq ?_
  refine WC.cond rfl (fun hb47 => ?_) (fun hb47 => ?_)
  ·
   have hc47 := hb47; try simp only [Gk.cs0] at hc47
   refine WC.skip ?_
   refine WC.seq ?_
   refine WC.block ?_
   refine WC.seq ?_
   obtain ⟨d, hd⟩ : ∃ d, D[j]? = some d := ⟨_, List.getElem?_eq_getElem (by omega)⟩
   have hdm : d ∈ Srt.upto l.length := hD.2.mem_iff.1 (List.mem_of_getElem? hd)
   have hdr := Srt.upto_mem.1 hdm
   obtain ⟨s, hs⟩ : ∃ s, l[d.toNat]? = some s := ⟨_, List.getElem?_eq_getElem (by omega)⟩
   obtain ⟨c, hc, ra, rc, pp, qq, Q, T, rfl, hent⟩ := hEE d.toNat s hs
   obtain ⟨pe, rfl, hpe⟩ := (hER.mono hJ3).2 (by omega)
   have hx := at_take (hpe.add (d.toNat * 10)) 10
   rw [flat_piece E h10 d.toNat _ hc] at hx
   have hnr : (pickR E (D.take (j + 1))).flatten = (pickR E (D.take j)).flatten ++ entCells s ra rc pp qq := by
    unfold pickR
    rw [List.take_add_one, hd, List.map_append, List.flatten_append]
    simp [List.getD_eq_getElem?_getD, hc]
   unfold entCells at hx hnr
   obtain ⟨dp, rfl, hdp⟩ := hDR.2 (by omega)
   obtain ⟨ka, kc, rfl, hkc, _⟩ := hS.vecSlice (k := 1) rfl
   have hdx : ((D.map I64).drop ((j : Int).toNat * 1))[0]? = some (I64 d) := by rw [List.getElem?_drop, Int.toNat_natCast, Nat.mul_one, Nat.add_zero, List.getElem?_map, hd]; rfl
   refine WC.region ?_
   first | refine WL.val (.indexAddr (.of rfl) (.of rfl) (by omega) (by omega) Tryz.underlying68 Tryz.sizeOf3) rfl ?_ | refine WL.val (.indexAddrI (.of rfl) (.of rfl) (by omega) (by omega) Tryz.underlying68 Tryz.sizeOf3) rfl ?_
   refine WL.val (.ldI (v := I64 d) (.of rfl) hS (hdp.add _) Tryz.isAgg3 hdx) rfl ?_
   refine WL.val (.assign (.of rfl)) rfl ?_
   refine WL.nil ?_
   refine WC.drawn (fun w => ∃ R, Sat B w J3 (blk b42 [.slice ka j kc] 67 :: R)) (fun j => !([13].contains j)) (by kernel_rfl) ?_
   replace hS := hS.drew; generalize w.drew = w at hS ⊢
   have hH : ∃ R, Sat B w J3 (blk b42 [.slice ka j kc] 67 :: R) := ⟨_, (hS.pick 0 rfl)⟩
   refine WD.takeP (i := 0) rfl (by kernel_rfl) (by kernel_rfl) (by kernel_rfl) (fun w => (.move (.of rfl))) rfl ?_
   refine WD.takeP (i := 1) rfl (by kernel_rfl) (by kernel_rfl) (by kernel_rfl) (fun w => (.move (.of rfl))) rfl ?_
   refine WD.takeP (i := 2) rfl (by kernel_rfl) (by kernel_rfl) (by kernel_rfl) (fun w => (.nilCheck (.of rfl))) rfl ?_
   refine WD.takeP (i := 3) rfl (by kernel_rfl) (by kernel_rfl) (by kernel_rfl) (fun w => (by first | exact .fieldAddr 0 (.of rfl) Tryz.underlying67 rfl rfl Tryz.sizeOf60 rfl | exact .fieldAddrI 0 (.of rfl) Tryz.underlying67 rfl rfl Tryz.sizeOf60 rfl)) rfl ?_
   refine WD.take (i := 4) rfl (by kernel_rfl) (by kernel_rfl) (by kernel_rfl) (by kernel_rfl) hH (fun w ⟨R, hS⟩ => (by first | exact (.ld (.of rfl) hS (k := 0) rfl Tryz.isAgg60 rfl) | exact (.ldI (.of rfl) hS (At.add hx _) Tryz.isAgg60 rfl))) rfl ?_
   refine WD.takeP (i := 5) rfl (by kernel_rfl) (by kernel_rfl) (by kernel_rfl) (fun w => (.move (.of rfl))) rfl ?_
   refine WD.takeP (i := 6) rfl (by kernel_rfl) (by kernel_rfl) (by kernel_rfl) (fun w => (.move (.of rfl))) rfl ?_
   refine WD.takeP (i := 7) rfl (by kernel_rfl) (by kernel_rfl) (by kernel_rfl) (fun w => (by first | exact .indexAddr (.of rfl) (.of rfl) (by omega) (by omega) Tryz.underlying60 Tryz.sizeOf63 | exact .indexAddrI (.of rfl) (.of rfl) (by omega) (by omega) Tryz.underlying60 Tryz.sizeOf63)) rfl ?_
   refine WD.take (i := 8) rfl (by kernel_rfl) (by kernel_rfl) (by kernel_rfl) (by kernel_rfl) hH (fun w ⟨R, hS⟩ => (by first | exact (.ldsW (cs := [_, _, _, _, _, _, _, _, _, _]) (.of rfl) hS (k := 0) rfl Tryz.isAgg63 Tryz.sizeOf63 rfl) | exact (.lds (vs := [_, _, _, _, _, _, _, _, _, _]) (.of rfl) hS (k := 0) rfl Tryz.isAgg63 Tryz.sizeOf63 rfl (fun _ _ h => h)) | exact (.ldsI (.of rfl) hS hx Tryz.isAgg63 Tryz.sizeOf63 rfl (fun _ _ h => h)) | exact (.ldsI (.of rfl) hS (At.add hx _) Tryz.isAgg63 Tryz.sizeOf63 rfl (fun _ _ h => h)))) rfl ?_
   refine WD.branch [9] (by kernel_rfl) rfl (WO.cons rfl ?_ (WO.nil))
   refine WL.buildSlice (cs := [_, _, _, _, _, _, _, _, _, _]) hS (parts_cons (.of rfl) parts_nil) Tryz.underlying60 Tryz.sizeOf63 Tryz.zeroValue63 rfl rfl rfl rfl ?_
   clear hS; intro b59 w hS
   refine WL.nil ?_
   clear hH
   have hH : ∃ R, Sat B w J3 (blk b42 [.slice ka j kc] 67 :: R) := ⟨_, (hS.pick 1 rfl)⟩
   refine And.intro (by intro _ _; exact hH) ?_
   refine WD.branch [10] (by kernel_rfl) rfl (WO.cons rfl ?_ (WO.nil))
   first | refine WL.append (size := 10) (bytes := 96) hS (.of rfl) (.of rfl) (k := 0) rfl Tryz.underlying60 info63_10 rfl rfl rfl rfl rfl rfl rfl ⟨by omega, by unfold maxLen; omega⟩ rfl ?_ | refine WL.append (size := 10) (bytes := 96) hS (.of rfl) (.of rfl) (k := 1) rfl Tryz.underlying60 info63_10 rfl rfl rfl rfl rfl rfl rfl ⟨by omega, by unfold maxLen; omega⟩ rfl ?_
   clear hS; intro v60 w hS; try dsimp only [List.set] at hS
   first | obtain ⟨a60, c60, rfl, hcap60, _⟩ := hS.vecSlice (k := 0) (v := v60) rfl | obtain ⟨a60, c60, rfl, hcap60, _⟩ := hS.vecSlice (k := 1) (v := v60) rfl
   refine WL.nil ?_
   clear hH
   have hH : ∃ R, Sat B w J3 (blk b42 [.slice ka j kc] 67 :: R) := ⟨_, (hS.pick 0 rfl)⟩
   refine And.intro (by intro _ _; exact hH) ?_
   refine WD.takeP (i := 11) rfl (by kernel_rfl) (by kernel_rfl) (by kernel_rfl) (fun w => (.nilCheck (.of rfl))) rfl ?_
   refine WD.takeP (i := 12) rfl (by kernel_rfl) (by kernel_rfl) (by kernel_rfl) (fun w => (by first | exact .fieldAddr 0 (.of rfl) Tryz.underlying67 rfl rfl Tryz.sizeOf60 rfl | exact .fieldAddrI 0 (.of rfl) Tryz.underlying67 rfl rfl Tryz.sizeOf60 rfl)) rfl ?_
   refine WD.branch [13] (by kernel_rfl) rfl (WO.cons rfl ?_ (WO.nil))
   first | refine WL.st1 hS (k := 0) rfl (.of rfl) (.of rfl) rfl Tryz.sizeOf60 (by simp) ?_ | refine WL.st1 hS (k := 1) rfl (.of rfl) (.of rfl) rfl Tryz.sizeOf60 (by simp) ?_
   clear hS; intro w hS; try dsimp only [List.set] at hS
   refine WL.nil ?_
   refine And.intro (by intro h; cases h) ?_
   refine WD.done (by kernel_rfl) ?_
   refine WC.region ?_
   refine WL.val (.add (.of rfl) (.of rfl) ⟨by omega, by omega⟩) rfl ?_
   refine WL.val (.move (.of rfl)) rfl ?_
   refine WL.nil ?_
   refine ⟨(.slice a60 (j + 1) c60, j + 1), ⟨rfl, rfl, rfl, rfl, rfl, trivial⟩, ⟨by (try dsimp only); omega, ?_⟩, by (try dsimp only); omega⟩
   (try dsimp only)
   rw [hnr]; exact hS
  ·
   have hc47 := hb47; try simp only [Gk.cs0] at hc47
   refine WC.exit ?_
   refine WC.seq ?_
   refine WC.region ?_
   refine WL.val (.move (.of rfl)) rfl ?_
   refine WL.val (.assign (.of rfl)) rfl ?_
   refine WL.val (.assign (.of rfl)) rfl ?_
   refine WL.val (.assign (.of rfl)) rfl ?_
   refine WL.nil ?_
   refine WC.ret ?_
   refine ret3 Tryz.results10 rfl rfl rfl ?_
   have hjn : j = l.length := by omega
   subst hjn
   rw [List.take_of_length_le (by omega)] at hS
   obtain ⟨ka, kc, rfl, hkc, _⟩ := hS.vecSlice (k := 1) rfl
   obtain ⟨J4, hJ4, hKR, hS1⟩ := hS.freezeVec (k := 1) rfl
   try dsimp only [List.eraseIdx] at hS1
   obtain ⟨J5, hJ5, hb5, hS2⟩ := hS1.freeze (k := 0) rfl
   have hw : wrong l = (0, 0) := wrong_none (fun q t ht => hok q t (by have := (List.getElem?_eq_some_iff.1 ht).1; omega) ht)
   have hpl : (pickS l D).length = l.length := by unfold pickS; rw [List.length_map, hDl]
   refine ⟨_, rfl, J5, Le.trans hJ (Le.trans hJ4 hJ5), hS2, .inr ⟨by rw [hw], _, D, rfl, hD, ka, kc, pickR E D, ?_, by rw [hpl]; exact hkc, by unfold pickR pickS; rw [List.length_map, List.length_map], fun q s hq => ?_⟩⟩
   ·rw [hpl]
    exact ⟨rfl, _, _, _, hb5, fun q v hq => by simpa using hq⟩
   ·unfold pickS at hq
    rw [List.getElem?_map] at hq
    cases hdq : D[q]? with
    | none => rw [hdq] at hq; cases hq
    | some d =>
     rw [hdq] at hq
     have hdr := Srt.upto_mem.1 (hD.2.mem_iff.1 (List.mem_of_getElem? hdq))
     obtain ⟨u, hu⟩ : ∃ u, l[d.toNat]? = some u := ⟨_, List.getElem?_eq_getElem (by omega)⟩
     have hus : u = s := by
      have h2 := hq
      rw [Option.map_some, List.getD_eq_getElem?_getD, hu] at h2
      exact Option.some.inj h2
     subst hus
     obtain ⟨c, hc, hent⟩ := hEE d.toNat u hu
     have hql := (List.getElem?_eq_some_iff.1 hdq).1
     obtain ⟨kp, rfl, hkp⟩ := (hKR.mono hJ5).2 (by omega)
     have hpk : (pickR E D)[q]? = some c := by unfold pickR; rw [List.getElem?_map, hdq]; simp [List.getD_eq_getElem?_getD, hc]
     have h10' : ∀ c ∈ pickR E D, c.length = 10 := fun c hc => by
      unfold pickR at hc
      obtain ⟨d', hd', rfl⟩ := List.mem_map.1 hc
      have hdr' := Srt.upto_mem.1 (hD.2.mem_iff.1 hd')
      rw [List.getD_eq_getElem?_getD, List.getElem?_eq_getElem (by omega)]
      exact h10 _ (List.getElem_mem _)
     have hx := at_take (hkp.add (q * 10)) 10
     rw [flat_piece _ h10' q _ hpk] at hx
     exact ⟨kp, c, rfl, hpk, hx, hent.mono (Le.trans hJ3 (Le.trans hJ4 hJ5))⟩
end Go.Proofs.YtchgkcbloeoopaaGreatDoor
namespace Go.Proofs.YtchgkcbloeoopaaGreatDoor
open Gk Pat
set_option linter.unusedVariables false
set_option linter.unusedSimpArgs false
theorem bld37_16 : Bld Tryz.prog 37 [(0, 1), (1, 1), (2, 1), (3, 1), (4, 1), (5, 1), (6, 1), (7, 1)] [.int .i64 0, .float .f64 0, S [], .bool false, .bool false, .bool false, S [], .slice none 0 0] := bld_of Tryz.underlying37 Tryz.zeroValue37 (fun w => by simp [go_sem])
theorem firstI_case (pr : Sv → Bool) : ∀ (l : List Sv) (i : Nat), (firstI pr l i = -1 ∧ l.find? pr = none) ∨ (∃ j s, firstI pr l i = ((i + j : Nat) : Int) ∧ l[j]? = some s ∧ pr s = true ∧ l.find? pr = some s)
 | [], _ => .inl ⟨rfl, rfl⟩
 | a :: l, i => by
  rw [firstI, List.find?_cons]
  cases ha : pr a with
  | true => exact .inr ⟨0, a, rfl, rfl, ha, rfl⟩
  | false =>
   rw [if_neg (by decide)]
   rcases firstI_case pr l (i + 1) with ⟨h1, h2⟩ | ⟨j, s, h1, h2, h3, h4⟩
   ·exact .inl ⟨h1, h2⟩
   ·exact .inr ⟨j + 1, s, by rw [h1]; congr 1; omega, h2, h3, h4⟩
theorem firstI_zero (pr : Sv → Bool) (l : List Sv) : (firstI pr l 0 = -1 ∧ l.find? pr = none) ∨ (∃ (j : Nat) (s : Sv), firstI pr l 0 = (j : Int) ∧ l[j]? = some s ∧ pr s = true ∧ l.find? pr = some s) := by
 rcases firstI_case pr l 0 with h | ⟨j, s, h1, h2⟩
 ·exact .inl h
 ·exact .inr ⟨j, s, by rw [h1, Nat.zero_add], h2⟩
theorem mtch_mat {l : List UInt8} {Q : List Pl} (h : cmp l = .ok Q) (s : List UInt8) : (mtch l s).1 = mat Q s := by unfold mtch; rw [h]
def findR (lo : List Sv) (s : List UInt8) : Sv × List UInt8 × Nat :=
 if (Ul.nU s).2 ≠ 0 then (z0, [], (Ul.nU s).2) else if 100 < (Ul.nU s).1.length then (z0, [], 2)
 else match lo.find? (fun t => (mtch t.urls (Ul.nU s).1).1) with
  | none => (z0, [], 31)
  | some t => (t, (Ul.nU s).1, 0)
abbrev HTTPSC : List UInt8 := [104, 116, 116, 112, 115, 58]
def callR (lo : List Sv) (id : Int) (s : List UInt8) : List UInt8 × Bool :=
 match lo.find? (fun t => t.id == id) with
 | none => ([], false)
 | some u => if (((((Ul.nU s).2 : Int) != 0 || decide (100 < ((Ul.nU s).1.length : Int))) || !(hasPre (Ul.nU s).1 HTTPSC)) || !((mtch u.calls (Ul.nU s).1).1)) = true then ([], false) else ((Ul.nU s).1, true)
theorem RegFind_any (pr : Addr) (lo : List Sv) (hlo : lo.length ≤ 100000) (hrl : ∀ s ∈ lo, s.rel.length ≤ 1000000) (s : List UInt8) (hs : s.length ≤ 1000000) (a : Option Addr) (cc : Nat) (E : List (List Value)) (B w : World) (I : Im) (hK : Known I) (hreg : At I pr [.slice a lo.length cc]) (hE : EntsIn I a E lo) (As : List Assn) (hS : Sat B w I As) :
  Calls Tryz.prog 16 [.pointer (some pr), S s].toArray w (Ret fun v w' => ∃ J u c n e, Le I J ∧ v = .tuple #[.agg (List.toArray c), S n, I64 ((e : Nat) : Int)] ∧ SvAt J u c ∧ findR lo s = (u, n, e) ∧ Sat B w' J As) := by
 refine calls Tryz.func16 rfl Tryz.ntmps16 rfl ?_
 refine WC.seq ?_
 refine WC.region ?_
 refine WL.allocA (cs := [_, _, _, _, _, _, _, _]) hS Tryz.zeroValue37 rfl ?_
 clear hS; intro b4 w hS
 refine WL.val (.assign (.of rfl)) rfl ?_
 refine WL.val (.assign (.of rfl)) rfl ?_
 refine WL.nil ?_
 refine WC.seq ?_
 refine WC.region ?_
 refine WL.val (.move (.of rfl)) rfl ?_
 refine WL.call Tryz.func33 rfl (evs_cons (.of rfl) evs_nil) rfl (uNormal_any s hs B _ I hK _ hS) ?_
 clear hS
 rintro _ w ⟨rfl, hS⟩
 refine WL.val (.move (.of rfl)) rfl ?_
 refine WL.val (.extract (.of rfl) rfl) rfl ?_
 refine WL.val (.extract (.of rfl) rfl) rfl ?_
 refine WL.alloc1 hS Tryz.zeroValue9 rfl rfl ?_
 clear hS; intro b7 w hS
 first | refine WL.st1 hS (k := 0) rfl (.of rfl) (.of rfl) rfl Tryz.sizeOf9 (by simp) ?_ | refine WL.st1 hS (k := 1) rfl (.of rfl) (.of rfl) rfl Tryz.sizeOf9 (by simp) ?_
 clear hS; intro w hS; try dsimp only [List.set] at hS
 refine WL.val (.assign (.of rfl)) rfl ?_
 refine WL.nil ?_
 refine WC.seq ?_
 refine WC.seq ?_
 refine WC.region ?_
 refine WL.val (.move (.of rfl)) rfl ?_
 refine WL.val (.eql (.of rfl) (.of rfl)) rfl ?_
 refine WL.val (.move (.of rfl)) rfl ?_
 refine WL.gval rfl rfl (fun hg1 => (by first | exact (.ld (.of rfl) hS (k := 0) rfl Tryz.isAgg9 rfl) | exact (.ld (.of rfl) hS (k := 1) rfl Tryz.isAgg9 rfl) | exact (.ldI (.of rfl) hS (At.add hreg _) Tryz.isAgg9 rfl) | exact (.ldI (.of rfl) hS (At.add hx _) Tryz.isAgg9 rfl))) rfl ?_
 refine WL.gval rfl rfl (fun hg1 => (.len (.gd hg1 rfl) Tryz.underlying9)) rfl ?_
 refine WL.gval rfl rfl (fun hg1 => (.gtr (.gd hg1 rfl) (.of rfl))) rfl ?_
 refine WL.val (.pand (.of rfl) (.of rfl) (.of rfl)) rfl ?_
 refine WL.nil ?_
 refine WC.cond rfl (fun hb21 => ?_) (fun hb21 => ?_)
 ·
  have hc21 := hb21; try simp only [Gk.cs0] at hc21
  refine WC.region ?_
  refine WL.val (.assign (.of rfl)) rfl ?_
  refine WL.nil ?_
  refine WC.seq ?_
  refine WC.seq ?_
  refine WC.region ?_
  refine WL.val (.move (.of rfl)) rfl ?_
  refine WL.val (.neq (.of rfl) (.of rfl)) rfl ?_
  refine WL.nil ?_
  refine WC.cond rfl (fun hb23 => ?_) (fun hb23 => by exfalso; simp only [Gk.cs0] at hb23; omega)
  have hc23 := hb23; try simp only [Gk.cs0] at hc23
  refine WC.seq ?_
  refine WC.region ?_
  refine WL.val (.build (cs := [_, _, _, _, _, _, _, _]) parts_nil bld37_16 rfl) rfl ?_
  refine WL.val (.move (.of rfl)) rfl ?_
  first | refine WL.stA hS (k := 0) rfl (.of rfl) (.of rfl) rfl Tryz.sizeOf37 rfl (by simp) ?_ | refine WL.stA hS (k := 1) rfl (.of rfl) (.of rfl) rfl Tryz.sizeOf37 rfl (by simp) ?_
  clear hS; intro w hS; try dsimp only [List.set] at hS
  try simp only [List.take_zero, List.nil_append, List.append_nil, List.drop_succ_cons, List.drop_zero, List.drop_nil, Nat.zero_add] at hS
  refine WL.val (.assign (.of rfl)) rfl ?_
  refine WL.val (.assign (.of rfl)) rfl ?_
  refine WL.nil ?_
  refine WC.ret ?_
  first | refine ret3c (b := _) (cs := [_, _, _, _, _, _, _, _]) Tryz.results16 hS (k := 0) rfl Tryz.isAgg37 Tryz.sizeOf37 rfl rfl rfl rfl ?_ | refine ret3c (b := _) (cs := [_, _, _, _, _, _, _, _]) Tryz.results16 hS (k := 1) rfl Tryz.isAgg37 Tryz.sizeOf37 rfl rfl rfl rfl ?_
  exact ⟨_, rfl, I, z0, _, [], 2, Le.refl _, rfl, ⟨none, 0, rfl, Nat.le_refl _, RS.nil _ _⟩, (by unfold findR; rw [if_neg (by simp at hb21; omega), if_pos (by simp at hb21; omega)]), ((hS.drop (k := 0) rfl).drop (k := 0) rfl)⟩
 ·
  have hc21 := hb21; try simp only [Gk.cs0] at hc21
  refine WC.skip ?_
  refine WC.seq ?_
  refine WC.seq ?_
  refine WC.region ?_
  refine WL.val (.move (.of rfl)) rfl ?_
  refine WL.val (.neq (.of rfl) (.of rfl)) rfl ?_
  refine WL.nil ?_
  refine WC.cond rfl (fun hb23 => ?_) (fun hb23 => ?_)
  ·
   have hc23 := hb23; try simp only [Gk.cs0] at hc23
   refine WC.seq ?_
   refine WC.region ?_
   refine WL.val (.build (cs := [_, _, _, _, _, _, _, _]) parts_nil bld37_16 rfl) rfl ?_
   refine WL.val (.move (.of rfl)) rfl ?_
   first | refine WL.stA hS (k := 0) rfl (.of rfl) (.of rfl) rfl Tryz.sizeOf37 rfl (by simp) ?_ | refine WL.stA hS (k := 1) rfl (.of rfl) (.of rfl) rfl Tryz.sizeOf37 rfl (by simp) ?_
   clear hS; intro w hS; try dsimp only [List.set] at hS
   try simp only [List.take_zero, List.nil_append, List.append_nil, List.drop_succ_cons, List.drop_zero, List.drop_nil, Nat.zero_add] at hS
   refine WL.val (.assign (.of rfl)) rfl ?_
   refine WL.val (.assign (.of rfl)) rfl ?_
   refine WL.nil ?_
   refine WC.ret ?_
   first | refine ret3c (b := _) (cs := [_, _, _, _, _, _, _, _]) Tryz.results16 hS (k := 0) rfl Tryz.isAgg37 Tryz.sizeOf37 rfl rfl rfl rfl ?_ | refine ret3c (b := _) (cs := [_, _, _, _, _, _, _, _]) Tryz.results16 hS (k := 1) rfl Tryz.isAgg37 Tryz.sizeOf37 rfl rfl rfl rfl ?_
   exact ⟨_, rfl, I, z0, _, [], _, Le.refl _, rfl, ⟨none, 0, rfl, Nat.le_refl _, RS.nil _ _⟩, (by unfold findR; rw [if_pos (by omega)]), ((hS.drop (k := 0) rfl).drop (k := 0) rfl)⟩
  ·
   have hc23 := hb23; try simp only [Gk.cs0] at hc23
   refine WC.skip ?_
   refine WC.seq ?_
   have hz : (Ul.nU s).2 = 0 := by omega
   have hn100 : (Ul.nU s).1.length ≤ 100 := by
    rw [hz] at hb21
    simp at hb21
    omega
   refine WC.region ?_
   refine WL.val (.move (.of rfl)) rfl ?_
   refine WL.val (.nilCheck (.of rfl)) rfl ?_
   first | refine WL.val (.fieldAddr 0 (.of rfl) Tryz.underlying67 rfl rfl Tryz.sizeOf60 rfl) rfl ?_ | refine WL.val (.fieldAddrI 0 (.of rfl) Tryz.underlying67 rfl rfl Tryz.sizeOf60 rfl) rfl ?_
   first | refine WL.val (.ld (.of rfl) hS (k := 0) rfl Tryz.isAgg60 rfl) rfl ?_ | refine WL.val (.ld (.of rfl) hS (k := 1) rfl Tryz.isAgg60 rfl) rfl ?_ | refine WL.val (.ldI (.of rfl) hS (At.add hreg _) Tryz.isAgg60 rfl) rfl ?_ | refine WL.val (.ldI (.of rfl) hS (At.add hx _) Tryz.isAgg60 rfl) rfl ?_
   refine WL.val (.makeFunc (evs_cons (.of rfl) evs_nil)) rfl ?_
   refine WL.call Tryz.func34 rfl (evs_cons (.of rfl) (evs_cons (.of rfl) evs_nil)) rfl (IndexFunc_any a cc lo hlo (fun t => (mtch t.urls (Ul.nU s).1).1) 35 _ Tryz.func35 rfl [ptr b7 0] B _ I (blk b7 [S (Ul.nU s).1] 9 :: blk b4 [I64 0, F64 0, S [], .bool false, .bool false, .bool false, S [], .slice none 0 0] 37 :: As) (fun w h => hE.now h) (fun t c ht w h => by
    obtain ⟨ta, tc, tp, tq, Q, _, rfl, _, _, hQ, hpat, _⟩ := ht
    refine (findC_any hQ ta tc tp tq (Ul.nU s).1 (by omega) b7 B w I hpat _ h).mono fun e w' ⟨v, e1, e2, e3⟩ => ⟨v, e1, ?_, e3⟩
    rw [e2, mtch_mat hQ]) hS) ?_
   clear hS
   rintro _ w ⟨rfl, hS⟩
   refine WL.val (.assign (.of rfl)) rfl ?_
   refine WL.nil ?_
   refine WC.seq ?_
   refine WC.seq ?_
   refine WC.region ?_
   refine WL.val (.move (.of rfl)) rfl ?_
   refine WL.val (.lss (.of rfl) (.of rfl)) rfl ?_
   refine WL.nil ?_
   refine WC.cond rfl (fun hb33 => ?_) (fun hb33 => ?_)
   ·
    have hc33 := hb33; try simp only [Gk.cs0] at hc33
    refine WC.seq ?_
    refine WC.region ?_
    refine WL.val (.build (cs := [_, _, _, _, _, _, _, _]) parts_nil bld37_16 rfl) rfl ?_
    first | refine WL.stA hS (k := 0) rfl (.of rfl) (.of rfl) rfl Tryz.sizeOf37 rfl (by simp) ?_ | refine WL.stA hS (k := 1) rfl (.of rfl) (.of rfl) rfl Tryz.sizeOf37 rfl (by simp) ?_
    clear hS; intro w hS; try dsimp only [List.set] at hS
    try simp only [List.take_zero, List.nil_append, List.append_nil, List.drop_succ_cons, List.drop_zero, List.drop_nil, Nat.zero_add] at hS
    refine WL.val (.assign (.of rfl)) rfl ?_
    refine WL.val (.assign (.of rfl)) rfl ?_
    refine WL.nil ?_
    refine WC.ret ?_
    first | refine ret3c (b := _) (cs := [_, _, _, _, _, _, _, _]) Tryz.results16 hS (k := 0) rfl Tryz.isAgg37 Tryz.sizeOf37 rfl rfl rfl rfl ?_ | refine ret3c (b := _) (cs := [_, _, _, _, _, _, _, _]) Tryz.results16 hS (k := 1) rfl Tryz.isAgg37 Tryz.sizeOf37 rfl rfl rfl rfl ?_
    exact ⟨_, rfl, I, z0, _, [], 31, Le.refl _, rfl, ⟨none, 0, rfl, Nat.le_refl _, RS.nil _ _⟩, (by
     have hno : lo.find? (fun t => (mtch t.urls (Ul.nU s).1).1) = none := by
      rcases firstI_zero (fun t => (mtch t.urls (Ul.nU s).1).1) lo with ⟨_, h⟩ | ⟨j, u, hj, _⟩
      ·exact h
      ·exfalso; rw [hj] at hc33; omega
     unfold findR
     rw [if_neg (by omega), if_neg (by omega), hno]), ((hS.drop (k := 0) rfl).drop (k := 0) rfl)⟩
   ·
    have hc33 := hb33; try simp only [Gk.cs0] at hc33
    refine WC.skip ?_
    refine WC.seq ?_
    rcases firstI_zero (fun t => (mtch t.urls (Ul.nU s).1).1) lo with ⟨hneg, _⟩ | ⟨j, u, hj, hu, hpu, hfind⟩
    ·exfalso; rw [hneg] at hc33; omega
    rw [hj]
    obtain ⟨p, c, rfl, hc, hx0, ra, rc, pp, qq, Q, T, rfl, hrc, hrr, hQ, hpQ, hT, hpT⟩ := hE.2 j u hu
    have hjl := (List.getElem?_eq_some_iff.1 hu).1
    have hsm := hrl u (List.mem_of_getElem? hu)
    have hx := at_take hx0 8
    simp only [entCells, List.take_succ_cons, List.take_zero] at hx
    refine WC.drawn (fun w => ∃ J9 R, Le I J9 ∧ Sat B w J9 (blk b7 [S (Ul.nU s).1] 9 :: R)) (fun j => !([].contains j)) (by kernel_rfl) ?_
    replace hS := hS.drew; generalize w.drew = w at hS ⊢
    have hH : ∃ J9 R, Le I J9 ∧ Sat B w J9 (blk b7 [S (Ul.nU s).1] 9 :: R) := ⟨_, _, Le.refl _, (hS.pick 0 rfl)⟩
    refine WD.takeP (i := 0) rfl (by kernel_rfl) (by kernel_rfl) (by kernel_rfl) (fun w => (.move (.of rfl))) rfl ?_
    refine WD.takeP (i := 1) rfl (by kernel_rfl) (by kernel_rfl) (by kernel_rfl) (fun w => (.nilCheck (.of rfl))) rfl ?_
    refine WD.takeP (i := 2) rfl (by kernel_rfl) (by kernel_rfl) (by kernel_rfl) (fun w => (by first | exact .fieldAddr 0 (.of rfl) Tryz.underlying67 rfl rfl Tryz.sizeOf60 rfl | exact .fieldAddrI 0 (.of rfl) Tryz.underlying67 rfl rfl Tryz.sizeOf60 rfl)) rfl ?_
    refine WD.take (i := 3) rfl (by kernel_rfl) (by kernel_rfl) (by kernel_rfl) (by kernel_rfl) hH (fun w ⟨J9, R, hL9, hS⟩ => (by first | exact (.ld (.of rfl) hS (k := 0) rfl Tryz.isAgg60 rfl) | exact (.ldI (.of rfl) hS (At.add (hreg.mono hL9) _) Tryz.isAgg60 rfl) | exact (.ldI (.of rfl) hS (At.add (hx.mono hL9) _) Tryz.isAgg60 rfl))) rfl ?_
    refine WD.takeP (i := 4) rfl (by kernel_rfl) (by kernel_rfl) (by kernel_rfl) (fun w => (.move (.of rfl))) rfl ?_
    refine WD.takeP (i := 5) rfl (by kernel_rfl) (by kernel_rfl) (by kernel_rfl) (fun w => (by first | exact .indexAddr (.of rfl) (.of rfl) (by omega) (by omega) Tryz.underlying60 Tryz.sizeOf63 | exact .indexAddrI (.of rfl) (.of rfl) (by omega) (by omega) Tryz.underlying60 Tryz.sizeOf63)) rfl ?_
    refine WD.takeP (i := 6) rfl (by kernel_rfl) (by kernel_rfl) (by kernel_rfl) (fun w => (by first | exact .fieldAddr 0 (.of rfl) Tryz.underlying63 rfl rfl Tryz.sizeOf37 rfl | exact .fieldAddrI 0 (.of rfl) Tryz.underlying63 rfl rfl Tryz.sizeOf37 rfl)) rfl ?_
    refine WD.take (i := 7) rfl (by kernel_rfl) (by kernel_rfl) (by kernel_rfl) (by kernel_rfl) hH (fun w ⟨J9, R, hL9, hS⟩ => (by first | exact (.ldsW (cs := [_, _, _, _, _, _, _, _]) (.of rfl) hS (k := 0) rfl Tryz.isAgg37 Tryz.sizeOf37 rfl) | exact (.lds (vs := [_, _, _, _, _, _, _, _]) (.of rfl) hS (k := 0) rfl Tryz.isAgg37 Tryz.sizeOf37 rfl (fun _ _ h => h)) | exact (.ldsI (.of rfl) hS (hreg.mono hL9) Tryz.isAgg37 Tryz.sizeOf37 rfl (fun _ _ h => h)) | exact (.ldsI (.of rfl) hS (At.add (hreg.mono hL9) _) Tryz.isAgg37 Tryz.sizeOf37 rfl (fun _ _ h => h)) | exact (.ldsI (.of rfl) hS (hx.mono hL9) Tryz.isAgg37 Tryz.sizeOf37 rfl (fun _ _ h => h)) | exact (.ldsI (.of rfl) hS (At.add (hx.mono hL9) _) Tryz.isAgg37 Tryz.sizeOf37 rfl (fun _ _ h => h)))) rfl ?_
    refine WD.take (i := 9) rfl (by kernel_rfl) (by kernel_rfl) (by kernel_rfl) (by kernel_rfl) hH (fun w ⟨J9, R, hL9, hS⟩ => (by first | exact (.ld (.of rfl) hS (k := 0) rfl Tryz.isAgg9 rfl) | exact (.ldI (.of rfl) hS (At.add (hreg.mono hL9) _) Tryz.isAgg9 rfl) | exact (.ldI (.of rfl) hS (At.add (hx.mono hL9) _) Tryz.isAgg9 rfl))) rfl ?_
    refine WD.branch [8] (by kernel_rfl) rfl (WO.cons rfl ?_ (WO.nil))
    refine WL.call Tryz.func29 rfl (evs_cons (.of rfl) evs_nil) rfl (own_svc u ra rc hsm B _ I hrr _ hS) ?_
    clear hS
    rintro _ w ⟨J2, cs, hJ2, rfl, hsv, hS⟩
    obtain ⟨sa, sc, rfl, hq1, hq2⟩ := hsv
    have hsv : SvAt J2 u (svCells u sa sc) := ⟨sa, sc, rfl, hq1, hq2⟩
    refine WL.nil ?_
    clear hH
    have hH : ∃ J9 R, Le I J9 ∧ Sat B w J9 (blk b7 [S (Ul.nU s).1] 9 :: R) := ⟨_, _, hJ2, (hS.pick 0 rfl)⟩
    refine And.intro (by intro _ _; exact hH) ?_
    refine WD.branch [10] (by kernel_rfl) rfl (WO.cons rfl ?_ (WO.nil))
    first | refine WL.stA hS (k := 0) rfl (.of rfl) (.of rfl) rfl Tryz.sizeOf37 rfl (by simp) ?_ | refine WL.stA hS (k := 1) rfl (.of rfl) (.of rfl) rfl Tryz.sizeOf37 rfl (by simp) ?_
    clear hS; intro w hS; try dsimp only [List.set] at hS
    try simp only [List.take_zero, List.nil_append, List.append_nil, List.drop_succ_cons, List.drop_zero, List.drop_nil, Nat.zero_add] at hS
    refine WL.nil ?_
    clear hH
    have hH : ∃ J9 R, Le I J9 ∧ Sat B w J9 (blk b7 [S (Ul.nU s).1] 9 :: R) := ⟨_, _, hJ2, (hS.pick 0 rfl)⟩
    refine And.intro (by intro _ _; exact hH) ?_
    refine WD.takeP (i := 11) rfl (by kernel_rfl) (by kernel_rfl) (by kernel_rfl) (fun w => (.assign (.of rfl))) rfl ?_
    refine WD.takeP (i := 12) rfl (by kernel_rfl) (by kernel_rfl) (by kernel_rfl) (fun w => (.assign (.of rfl))) rfl ?_
    refine WD.done (by kernel_rfl) ?_
    refine WC.ret ?_
    first | refine ret3c (b := _) (cs := [_, _, _, _, _, _, _, _]) Tryz.results16 hS (k := 0) rfl Tryz.isAgg37 Tryz.sizeOf37 rfl rfl rfl rfl ?_ | refine ret3c (b := _) (cs := [_, _, _, _, _, _, _, _]) Tryz.results16 hS (k := 1) rfl Tryz.isAgg37 Tryz.sizeOf37 rfl rfl rfl rfl ?_
    exact ⟨_, rfl, J2, u, _, (Ul.nU s).1, 0, hJ2, rfl, hsv, (by unfold findR; rw [if_neg (by omega), if_neg (by omega), hfind]), ((hS.drop (k := 0) rfl).drop (k := 0) rfl)⟩
theorem RegCalls_any (pr : Addr) (lo : List Sv) (hlo : lo.length ≤ 100000) (hrl : ∀ s ∈ lo, s.rel.length ≤ 1000000) (id : Int) (s : List UInt8) (hs : s.length ≤ 1000000) (a : Option Addr) (cc : Nat) (E : List (List Value)) (B w : World) (I : Im) (hK : Known I) (hreg : At I pr [.slice a lo.length cc]) (hE : EntsIn I a E lo) (As : List Assn) (hS : Sat B w I As) :
  Calls Tryz.prog 21 [.pointer (some pr), I64 id, S s].toArray w (Ret fun v w' => v = .tuple #[S (callR lo id s).1, .bool (callR lo id s).2] ∧ Sat B w' I As) := by
 refine calls Tryz.func21 rfl Tryz.ntmps21 rfl ?_
 refine WC.seq ?_
 refine WC.region ?_
 refine WL.box1 hS (.of rfl) rfl rfl ?_
 clear hS; intro b4 w hS
 refine WL.val (.assign (.of rfl)) rfl ?_
 refine WL.val (.assign (.of rfl)) rfl ?_
 refine WL.nil ?_
 refine WC.seq ?_
 refine WC.region ?_
 refine WL.val (.move (.of rfl)) rfl ?_
 refine WL.call Tryz.func33 rfl (evs_cons (.of rfl) evs_nil) rfl (uNormal_any s hs B _ I hK _ hS) ?_
 clear hS
 rintro _ w ⟨rfl, hS⟩
 refine WL.val (.move (.of rfl)) rfl ?_
 refine WL.val (.extract (.of rfl) rfl) rfl ?_
 refine WL.val (.extract (.of rfl) rfl) rfl ?_
 refine WL.val (.assign (.of rfl)) rfl ?_
 refine WL.val (.assign (.of rfl)) rfl ?_
 refine WL.nil ?_
 refine WC.seq ?_
 refine WC.region ?_
 refine WL.val (.move (.of rfl)) rfl ?_
 refine WL.val (.nilCheck (.of rfl)) rfl ?_
 first | refine WL.val (.fieldAddr 0 (.of rfl) Tryz.underlying67 rfl rfl Tryz.sizeOf60 rfl) rfl ?_ | refine WL.val (.fieldAddrI 0 (.of rfl) Tryz.underlying67 rfl rfl Tryz.sizeOf60 rfl) rfl ?_
 first | refine WL.val (.ld (.of rfl) hS (k := 0) rfl Tryz.isAgg60 rfl) rfl ?_ | refine WL.val (.ldI (.of rfl) hS (At.add hreg _) Tryz.isAgg60 rfl) rfl ?_ | refine WL.val (.ldI (.of rfl) hS (At.add hx _) Tryz.isAgg60 rfl) rfl ?_
 refine WL.val (.makeFunc (evs_cons (.of rfl) evs_nil)) rfl ?_
 refine WL.call Tryz.func34 rfl (evs_cons (.of rfl) (evs_cons (.of rfl) evs_nil)) rfl (IndexFunc_any a cc lo hlo (fun t => t.id == id) 43 _ Tryz.func43 rfl [ptr b4 0] B _ I (blk b4 [I64 id] 3 :: As) (fun w h => hE.now h) (fun t c ht w h => by
  obtain ⟨ta, tc, tp, tq, Q, _, rfl, _, _, hQ, hpat, _⟩ := ht
  exact callC_any t ta tc tp tq id b4 B w I _ h) hS) ?_
 clear hS
 rintro _ w ⟨rfl, hS⟩
 refine WL.val (.assign (.of rfl)) rfl ?_
 refine WL.nil ?_
 refine WC.seq ?_
 refine WC.seq ?_
 refine WC.region ?_
 have hi0 := firstI_zero (fun t => t.id == id) lo
 rcases hi0 with ⟨hneg, hnone⟩ | ⟨j, u, hj, hu, hpu, hfind⟩
 ·
  have hd : decide (firstI (fun t => t.id == id) lo 0 < 0) = true := by rw [hneg]; rfl
  refine WL.val (.move (.of rfl)) rfl ?_
  refine WL.val (.lss (.of rfl) (.of rfl)) rfl ?_
  refine WL.val (.move (.of rfl)) rfl ?_
  refine WL.gval rfl rfl (fun hg1 => (.move (.of rfl))) rfl ?_
  refine WL.gval rfl rfl (fun hg1 => (.neq (.gd hg1 rfl) (.of rfl))) rfl ?_
  refine WL.val (.por (.of rfl) (.of rfl) (.of rfl)) rfl ?_
  refine WL.val (.move (.of rfl)) rfl ?_
  refine WL.gval rfl rfl (fun hg1 => (.move (.of rfl))) rfl ?_
  refine WL.gval rfl rfl (fun hg1 => (.len (.gd hg1 rfl) Tryz.underlying9)) rfl ?_
  refine WL.gval rfl rfl (fun hg1 => (.gtr (.gd hg1 rfl) (.of rfl))) rfl ?_
  refine WL.val (.por (.of rfl) (.of rfl) (.of rfl)) rfl ?_
  refine WL.val (.move (.of rfl)) rfl ?_
  refine WL.gval rfl rfl (fun hg1 => (.move (.of rfl))) rfl ?_
  refine WL.gcall (T := fun w => Sat B w I (blk b4 [I64 id] 3 :: As)) rfl rfl rfl Tryz.func38 rfl (fun hg1 => (evs_cons (.gd hg1 rfl) (evs_cons (.of rfl) evs_nil))) rfl (fun hg1 => quiet_of (HasPrefix_any (Ul.nU s).1 _ w (by (try simp only [Gk.cs0] at hg1); omega) (by decide)) hS) hS ?_
  clear hS; rintro w hS
  refine WL.gval rfl rfl (fun hg1 => (.not (.gd hg1 rfl))) rfl ?_
  refine WL.val (.por (.of rfl) (.of rfl) (.of rfl)) rfl ?_
  refine WL.val (.move (.of rfl)) rfl ?_
  refine WL.gval (v := .bool false) rfl rfl (fun hg1 => absurd hg1 (by simp [hd])) rfl ?_
  refine WL.gval (v := .bool false) rfl rfl (fun hg1 => absurd hg1 (by simp [hd])) rfl ?_
  refine WL.gval (v := .bool false) rfl rfl (fun hg1 => absurd hg1 (by simp [hd])) rfl ?_
  refine WL.gval (v := .bool false) rfl rfl (fun hg1 => absurd hg1 (by simp [hd])) rfl ?_
  refine WL.gval (v := .bool false) rfl rfl (fun hg1 => absurd hg1 (by simp [hd])) rfl ?_
  refine WL.gval (v := .bool false) rfl rfl (fun hg1 => absurd hg1 (by simp [hd])) rfl ?_
  refine WL.gval (v := .bool false) rfl rfl (fun hg1 => absurd hg1 (by simp [hd])) rfl ?_
  refine WL.gval (v := .bool false) rfl rfl (fun hg1 => absurd hg1 (by simp [hd])) rfl ?_
  refine WL.gval (v := .bool false) rfl rfl (fun hg1 => absurd hg1 (by simp [hd])) rfl ?_
  refine WL.gval (v := .bool false) rfl rfl (fun hg1 => absurd hg1 (by simp [hd])) rfl ?_
  refine WL.gval (v := .bool false) rfl rfl (fun hg1 => absurd hg1 (by simp [hd])) rfl ?_
  refine WL.val (.por (.of rfl) (.of rfl) (.of rfl)) rfl ?_
  refine WL.nil ?_
  refine WC.cond rfl (fun hb50 => ?_) (fun hb50 => ?_)
  ·
   have hc50 := hb50; try simp only [Gk.cs0] at hc50
   refine WC.seq ?_
   refine WC.region ?_
   refine WL.val (.assign (.of rfl)) rfl ?_
   refine WL.val (.assign (.of rfl)) rfl ?_
   refine WL.nil ?_
   refine WC.ret ?_
   refine ret2 Tryz.results21 rfl rfl ?_
   refine ⟨_, rfl, ?_, hS.drop (k := 0) rfl⟩
   unfold callR
   rw [hnone]
  ·
   have hc50 := hb50; try simp only [Gk.cs0] at hc50
   refine WC.skip ?_
   refine WC.seq ?_
   refine WC.region ?_
   refine WL.val (.move (.of rfl)) rfl ?_
   refine WL.val (.assign (.of rfl)) rfl ?_
   refine WL.val (.assign (.of rfl)) rfl ?_
   refine WL.nil ?_
   refine WC.ret ?_
   refine ret2 Tryz.results21 rfl rfl ?_
   exfalso
   rw [hd] at hb50
   simp at hb50
 ·
  rw [hj]
  obtain ⟨p, c, rfl, hc, hx0, ra, rc, pp, qq, Q, T, rfl, hrc, hrr, hQ, hpQ, hT, hpT⟩ := hE.2 j u hu
  have hjl := (List.getElem?_eq_some_iff.1 hu).1
  have hsm := hrl u (List.mem_of_getElem? hu)
  have hx := hx0
  refine WL.val (.move (.of rfl)) rfl ?_
  refine WL.val (.lss (.of rfl) (.of rfl)) rfl ?_
  refine WL.val (.move (.of rfl)) rfl ?_
  refine WL.gval rfl rfl (fun hg1 => (.move (.of rfl))) rfl ?_
  refine WL.gval rfl rfl (fun hg1 => (.neq (.gd hg1 rfl) (.of rfl))) rfl ?_
  refine WL.val (.por (.of rfl) (.of rfl) (.of rfl)) rfl ?_
  refine WL.val (.move (.of rfl)) rfl ?_
  refine WL.gval rfl rfl (fun hg1 => (.move (.of rfl))) rfl ?_
  refine WL.gval rfl rfl (fun hg1 => (.len (.gd hg1 rfl) Tryz.underlying9)) rfl ?_
  refine WL.gval rfl rfl (fun hg1 => (.gtr (.gd hg1 rfl) (.of rfl))) rfl ?_
  refine WL.val (.por (.of rfl) (.of rfl) (.of rfl)) rfl ?_
  refine WL.val (.move (.of rfl)) rfl ?_
  refine WL.gval rfl rfl (fun hg1 => (.move (.of rfl))) rfl ?_
  refine WL.gcall (T := fun w => Sat B w I (blk b4 [I64 id] 3 :: As)) rfl rfl rfl Tryz.func38 rfl (fun hg1 => (evs_cons (.gd hg1 rfl) (evs_cons (.of rfl) evs_nil))) rfl (fun hg1 => quiet_of (HasPrefix_any (Ul.nU s).1 _ w (by (try simp only [Gk.cs0] at hg1); omega) (by decide)) hS) hS ?_
  clear hS; rintro w hS
  refine WL.gval rfl rfl (fun hg1 => (.not (.gd hg1 rfl))) rfl ?_
  refine WL.val (.por (.of rfl) (.of rfl) (.of rfl)) rfl ?_
  refine WL.val (.move (.of rfl)) rfl ?_
  refine WL.gval rfl rfl (fun hg1 => (.move (.of rfl))) rfl ?_
  refine WL.gval rfl rfl (fun hg1 => (.nilCheck (.gd hg1 rfl))) rfl ?_
  refine WL.gval rfl rfl (fun hg1 => (by first | exact .fieldAddr 0 (.gd hg1 rfl) Tryz.underlying67 rfl rfl Tryz.sizeOf60 rfl | exact .fieldAddrI 0 (.gd hg1 rfl) Tryz.underlying67 rfl rfl Tryz.sizeOf60 rfl)) rfl ?_
  refine WL.gval rfl rfl (fun hg1 => (by first | exact (.ld (.gd hg1 rfl) hS (k := 0) rfl Tryz.isAgg60 rfl) | exact (.ldI (.gd hg1 rfl) hS (At.add hreg _) Tryz.isAgg60 rfl) | exact (.ldI (.gd hg1 rfl) hS (At.add hx _) Tryz.isAgg60 rfl))) rfl ?_
  refine WL.gval rfl rfl (fun hg1 => (.move (.of rfl))) rfl ?_
  refine WL.gval rfl rfl (fun hg1 => (by first | exact .indexAddr (.gd hg1 rfl) (.gd hg1 rfl) (by (try simp only [Gk.cs0] at hg1); omega) (by (try simp only [Gk.cs0] at hg1); omega) Tryz.underlying60 Tryz.sizeOf63 | exact .indexAddrI (.gd hg1 rfl) (.gd hg1 rfl) (by (try simp only [Gk.cs0] at hg1); omega) (by (try simp only [Gk.cs0] at hg1); omega) Tryz.underlying60 Tryz.sizeOf63)) rfl ?_
  refine WL.gval rfl rfl (fun hg1 => (by first | exact .fieldAddr 9 (.gd hg1 rfl) Tryz.underlying63 rfl rfl Tryz.sizeOf44 rfl | exact .fieldAddrI 9 (.gd hg1 rfl) Tryz.underlying63 rfl rfl Tryz.sizeOf44 rfl)) rfl ?_
  refine WL.gval rfl rfl (fun hg1 => (by first | exact (.ld (.gd hg1 rfl) hS (k := 0) rfl Tryz.isAgg44 rfl) | exact (.ldI (.gd hg1 rfl) hS (At.add hreg _) Tryz.isAgg44 rfl) | exact (.ldI (.gd hg1 rfl) hS (At.add hx _) Tryz.isAgg44 rfl))) rfl ?_
  refine WL.gval rfl rfl (fun hg1 => (.move (.of rfl))) rfl ?_
  refine WL.gcall (T := fun w => Sat B w I (blk b4 [I64 id] 3 :: As)) rfl rfl rfl Tryz.func19 rfl (fun hg1 => (evs_cons (.gd hg1 rfl) (evs_cons (.gd hg1 rfl) evs_nil))) rfl (fun hg1 => Match_any hT qq (Ul.nU s).1 (by (try simp only [Gk.cs0] at hg1); omega) B _ I _ hS hpT) hS ?_
  clear hS; rintro w hS
  refine WL.gval rfl rfl (fun hg1 => (.not (.gd hg1 rfl))) rfl ?_
  refine WL.val (.por (.of rfl) (.of rfl) (.of rfl)) rfl ?_
  refine WL.nil ?_
  refine WC.cond rfl (fun hb50 => ?_) (fun hb50 => ?_)
  ·
   have hc50 := hb50; try simp only [Gk.cs0] at hc50
   refine WC.seq ?_
   refine WC.region ?_
   refine WL.val (.assign (.of rfl)) rfl ?_
   refine WL.val (.assign (.of rfl)) rfl ?_
   refine WL.nil ?_
   refine WC.ret ?_
   refine ret2 Tryz.results21 rfl rfl ?_
   refine ⟨_, rfl, ?_, hS.drop (k := 0) rfl⟩
   unfold callR
   rw [hfind]
   simp only
   rw [show decide ((j : Int) < 0) = false from decide_eq_false (by omega), Bool.false_or] at hb50
   rw [if_pos (by rw [mtch_mat hT]; exact hb50)]
  ·
   have hc50 := hb50; try simp only [Gk.cs0] at hc50
   refine WC.skip ?_
   refine WC.seq ?_
   refine WC.region ?_
   refine WL.val (.move (.of rfl)) rfl ?_
   refine WL.val (.assign (.of rfl)) rfl ?_
   refine WL.val (.assign (.of rfl)) rfl ?_
   refine WL.nil ?_
   refine WC.ret ?_
   refine ret2 Tryz.results21 rfl rfl ?_
   refine ⟨_, rfl, ?_, hS.drop (k := 0) rfl⟩
   unfold callR
   rw [hfind]
   simp only
   rw [show decide ((j : Int) < 0) = false from decide_eq_false (by omega), Bool.false_or] at hb50
   rw [if_neg (by rw [mtch_mat hT, Bool.not_eq_true]; exact hb50)]
   rfl
end Go.Proofs.YtchgkcbloeoopaaGreatDoor
