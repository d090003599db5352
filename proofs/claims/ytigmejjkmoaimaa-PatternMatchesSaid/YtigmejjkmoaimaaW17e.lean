/- Chapter 17: what a law's walk needs; the first law. -/
import Derived.Test.YtigmejjkmoaimaaW17d
import Derived.Test.YtigmejjkmoaimaaPatX
import Derived.Test.YtigmejjkmoaimaaW17a
import Derived.KernelRfl
namespace Go.Proofs.Ytigmejjkmoaimaa
open Gk Pat
set_option linter.unusedVariables false
set_option linter.unusedSimpArgs false

/-- What compiling tells, in one. -/
def CompT (I : Im) (l : List UInt8) (po : Option Addr) (e a : Int) : Prop := match cmp l with
  | .error (e', a') => po = none ∧ e = e' ∧ a = a'
  | .ok Q => ∃ p, po = some p ∧ e = 0 ∧ a = 0 ∧ PatI I p Q l.length
theorem CompT.mono {I J : Im} {l : List UInt8} {po : Option Addr} {e a : Int} (h : CompT I l po e a) (hl : Le I J) : CompT J l po e a := by
  unfold CompT at h ⊢
  cases hq : cmp l with
  | error x => rw [hq] at h; exact h
  | ok Q => rw [hq] at h; obtain ⟨p, h1, h2, h3, h4⟩ := h; exact ⟨p, h1, h2, h3, h4.mono hl⟩
theorem Compile_t (l : List UInt8) (B w : World) (I : Im) (As : List Assn) (hS : Sat B w I As) (hl : l.length ≤ 140737488351232) :
    Calls Try.prog 11 [S l].toArray w (Ret fun v w' => ∃ po e a J, v = .tuple #[.pointer po, I64 e, I64 a] ∧ Le I J ∧ CompT J l po e a ∧ Sat B w' J As) := by
  refine (Compile_any l B w I As hS hl).mono fun x w' ⟨v, hx, h⟩ => ⟨v, hx, ?_⟩
  rcases h with ⟨e, a, J, h1, h2, h3, h4⟩ | ⟨Q, p, J, h1, h2, h3, h4, h5⟩
  · exact ⟨none, e, a, J, h2, h3, by rw [CompT, h1]; exact ⟨rfl, rfl, rfl⟩, h4⟩
  · exact ⟨some p, 0, 0, J, h2, h3, by rw [CompT, h1]; exact ⟨p, rfl, rfl, rfl, h4⟩, h5⟩
theorem Compile_ok {l : List UInt8} {Q : List Pl} (hq : cmp l = .ok Q) (B w : World) (I : Im) (As : List Assn) (hS : Sat B w I As) (hl : l.length ≤ 140737488351232) :
    Calls Try.prog 11 [S l].toArray w (Ret fun v w' => ∃ p J, v = .tuple #[.pointer (some p), I64 0, I64 0] ∧ Le I J ∧ PatI J p Q l.length ∧ Sat B w' J As) := by
  refine (Compile_t l B w I As hS hl).mono fun x w' ⟨v, hx, po, e, a, J, h1, h2, h3, h4⟩ => ⟨v, hx, ?_⟩
  rw [CompT, hq] at h3
  obtain ⟨p, rfl, rfl, rfl, h5⟩ := h3
  exact ⟨p, J, h1, h2, h5, h4⟩
theorem Compile_err {l : List UInt8} {e a : Int} (hq : cmp l = .error (e, a)) (B w : World) (I : Im) (As : List Assn) (hS : Sat B w I As) (hl : l.length ≤ 140737488351232) :
    Calls Try.prog 11 [S l].toArray w (Ret fun v w' => ∃ J, v = .tuple #[.pointer none, I64 e, I64 a] ∧ Le I J ∧ Sat B w' J As) := by
  refine (Compile_t l B w I As hS hl).mono fun x w' ⟨v, hx, po, e', a', J, h1, h2, h3, h4⟩ => ⟨v, hx, ?_⟩
  rw [CompT, hq] at h3
  obtain ⟨rfl, rfl, rfl⟩ := h3
  exact ⟨J, h1, h2, h4⟩
theorem cmp_facts {l : List UInt8} {Q : List Pl} (h : cmp l = .ok Q) : WF Q ∧ 0 < Q.length ∧ Q.length ≤ 201 ∧ l.length ≤ 200 := by
  obtain ⟨hl, p, h1, h2, h3, rfl⟩ := cmp_ok h
  obtain ⟨hW, hE⟩ := placesOf_wf h1.ok
  have h4 := placesOf_len p
  have h5 := h1.len
  exact ⟨hW, hE.1, by unfold placesOf at h4; omega, hl⟩

theorem Match_any {l : List UInt8} {Q : List Pl} (hq : cmp l = .ok Q) (p : Addr) (s : List UInt8) (hs : s.length ≤ 1000000) (B w : World) (I : Im) (As : List Assn) (hS : Sat B w I As) (hp : PatI I p Q l.length) :
    Calls Try.prog 15 [.pointer (some p), S s].toArray w (Ret fun v w' => v = .bool (mat Q s) ∧ Sat B w' I As) := by
  have hf := cmp_facts hq
  refine calls Try.func15 rfl Try.ntmps15 rfl ?_
  refine WC.seq ?_
  refine WC.region ?_
  refine WL.val (.assign (.of rfl)) rfl ?_
  refine WL.nil ?_
  refine WC.seq ?_
  refine WC.region ?_
  refine WL.val (.move (.of rfl)) rfl ?_
  refine WL.val (.move (.of rfl)) rfl ?_
  refine WL.call Try.func23 rfl (evs_cons (.of rfl) (evs_cons (.of rfl) evs_nil)) rfl (run_any Q p l.length s hf.1 hf.2.1 (by omega) (by omega) hs B w I As hS hp) ?_
  clear hS
  rintro _ w ⟨rfl, hS⟩
  refine WL.val (.move (.of rfl)) rfl ?_
  refine WL.val (.extract (.of rfl) rfl) rfl ?_
  refine WL.val (.extract (.of rfl) rfl) rfl ?_
  refine WL.val (.assign (.of rfl)) rfl ?_
  refine WL.val (.assign (.of rfl)) rfl ?_
  refine WL.nil ?_
  refine WC.seq ?_
  refine WC.region ?_
  refine WL.val (.move (.of rfl)) rfl ?_
  refine WL.val (.assign (.of rfl)) rfl ?_
  refine WL.nil ?_
  refine WC.ret ?_
  refine ret1 Try.results15 rfl ?_
  exact ⟨_, rfl, rfl, hS⟩
theorem Steps_any {l : List UInt8} {Q : List Pl} (hq : cmp l = .ok Q) (p : Addr) (s : List UInt8) (hs : s.length ≤ 1000000) (B w : World) (I : Im) (As : List Assn) (hS : Sat B w I As) (hp : PatI I p Q l.length) :
    Calls Try.prog 14 [.pointer (some p), S s].toArray w (Ret fun v w' => v = I64 (min ((Pat.run Q s).2 : Int) (((l.length : Int) + 1) * ((s.length : Int) + 1))) ∧ Sat B w' I As) := by
  have hf := cmp_facts hq
  refine calls Try.func14 rfl Try.ntmps14 rfl ?_
  refine WC.seq ?_
  refine WC.region ?_
  refine WL.val (.assign (.of rfl)) rfl ?_
  refine WL.nil ?_
  refine WC.seq ?_
  refine WC.region ?_
  refine WL.val (.move (.of rfl)) rfl ?_
  refine WL.val (.move (.of rfl)) rfl ?_
  refine WL.call Try.func23 rfl (evs_cons (.of rfl) (evs_cons (.of rfl) evs_nil)) rfl (run_any Q p l.length s hf.1 hf.2.1 (by omega) (by omega) hs B w I As hS hp) ?_
  clear hS
  rintro _ w ⟨rfl, hS⟩
  refine WL.val (.move (.of rfl)) rfl ?_
  refine WL.val (.extract (.of rfl) rfl) rfl ?_
  refine WL.val (.extract (.of rfl) rfl) rfl ?_
  refine WL.val (.assign (.of rfl)) rfl ?_
  refine WL.val (.assign (.of rfl)) rfl ?_
  refine WL.nil ?_
  refine WC.seq ?_
  refine WC.region ?_
  refine WL.val (.move (.of rfl)) rfl ?_
  refine WL.val (.assign (.of rfl)) rfl ?_
  refine WL.nil ?_
  refine WC.ret ?_
  refine ret1 Try.results14 rfl ?_
  exact ⟨_, rfl, rfl, hS⟩
theorem Size_any (Q : List Pl) (n : Nat) (p : Addr) (B w : World) (I : Im) (As : List Assn) (hS : Sat B w I As) (hp : PatI I p Q n) :
    Calls Try.prog 13 [.pointer (some p)].toArray w (Ret fun v w' => v = I64 n ∧ Sat B w' I As) := by
  obtain ⟨a, c, P, hA, _⟩ := hp
  refine calls Try.func13 rfl Try.ntmps13 rfl ?_
  refine WC.seq ?_
  refine WC.region ?_
  refine WL.val (.assign (.of rfl)) rfl ?_
  refine WL.nil ?_
  refine WC.seq ?_
  refine WC.region ?_
  refine WL.val (.move (.of rfl)) rfl ?_
  refine WL.val (.nilCheck (.of rfl)) rfl ?_
  first | refine WL.val (.fieldAddr 1 (.of rfl) Try.underlying46 rfl rfl Try.sizeOf3 rfl) rfl ?_ | refine WL.val (.fieldAddrI 1 (.of rfl) Try.underlying46 rfl rfl Try.sizeOf3 rfl) rfl ?_
  refine WL.val (.ldI (.of rfl) hS (hA.add 1) Try.isAgg3 rfl) rfl ?_
  refine WL.val (.assign (.of rfl)) rfl ?_
  refine WL.nil ?_
  refine WC.ret ?_
  refine ret1 Try.results13 rfl ?_
  exact ⟨_, rfl, rfl, hS⟩
theorem Size_opt {l : List UInt8} {po : Option Addr} {e a : Int} (h0 : po.isNone = false) (B w : World) (I : Im) (As : List Assn) (hS : Sat B w I As) (hp : CompT I l po e a) :
    Calls Try.prog 13 [.pointer po].toArray w (Ret fun v w' => v = I64 l.length ∧ Sat B w' I As) := by
  unfold CompT at hp
  cases hq : cmp l with
  | error x => rw [hq] at hp; obtain ⟨rfl, _⟩ := hp; cases h0
  | ok Q => rw [hq] at hp; obtain ⟨p, rfl, _, _, h⟩ := hp; exact Size_any Q l.length p B w I As hS h
def aw1 : List UInt8 := [104, 116, 116, 112, 40, 115, 124, 41, 58, 47, 47, 97, 46, 63, 47, 42]
def aw2 : List UInt8 := [47, 42, 42, 47, 120]
def aw3 : List UInt8 := [40, 97, 124, 98]
def awQ (l : List UInt8) : List Pl := match cmp l with | .ok Q => Q | .error _ => []
theorem aw1_ok : cmp aw1 = .ok (awQ aw1) := by kernel_rfl
theorem aw2_ok : cmp aw2 = .ok (awQ aw2) := by kernel_rfl
theorem aw3_err : cmp aw3 = .error (23, 0) := by kernel_rfl
theorem aw_m1 : mat (awQ aw1) [104, 116, 116, 112, 115, 58, 47, 47, 97, 46, 120, 47, 121] = true := by kernel_rfl
theorem aw_m2 : mat (awQ aw1) [104, 116, 116, 112, 58, 47, 47, 97, 46, 120, 47, 121, 47, 122] = false := by kernel_rfl
theorem aw_m3 : mat (awQ aw2) [47, 97, 47, 98, 47, 120] = true := by kernel_rfl
theorem aw_m4 : mat (awQ aw2) [47, 47, 120] = true := by kernel_rfl
theorem aw_m5 : mat (awQ aw2) [47, 120] = false := by kernel_rfl

theorem awake_any (B w : World) (I : Im) (As : List Assn) (hS : Sat B w I As) :
    Calls Try.prog 9 #[] w (Ret fun v w' => v = .bool true ∧ ∃ J, Le I J ∧ Sat B w' J As) := by
  refine Eq.subst (motive := fun x => Calls _ _ x w _) (show ([] : List Value).toArray = #[] from rfl) ?_
  refine calls Try.func9 rfl Try.ntmps9 rfl ?_
  refine WC.seq ?_
  refine WC.region ?_
  refine WL.val (.assign (.of rfl)) rfl ?_
  refine WL.nil ?_
  refine WC.seq ?_
  refine WC.region ?_
  refine WL.call Try.func11 rfl (evs_cons (.of rfl) evs_nil) rfl (Compile_ok aw1_ok B w I As hS (by decide)) ?_
  clear hS
  rintro _ w ⟨p1, J1, rfl, hJ1, h1, hS⟩
  refine WL.val (.move (.of rfl)) rfl ?_
  refine WL.val (.extract (.of rfl) rfl) rfl ?_
  refine WL.val (.extract (.of rfl) rfl) rfl ?_
  refine WL.val (.extract (.of rfl) rfl) rfl ?_
  refine WL.val (.assign (.of rfl)) rfl ?_
  refine WL.val (.assign (.of rfl)) rfl ?_
  refine WL.val (.assign (.of rfl)) rfl ?_
  refine WL.nil ?_
  refine WC.seq ?_
  refine WC.region ?_
  refine WL.call Try.func11 rfl (evs_cons (.of rfl) evs_nil) rfl (Compile_ok aw2_ok B w J1 As hS (by decide)) ?_
  clear hS
  rintro _ w ⟨p2, J2, rfl, hJ2, h2, hS⟩
  refine WL.val (.move (.of rfl)) rfl ?_
  refine WL.val (.extract (.of rfl) rfl) rfl ?_
  refine WL.val (.extract (.of rfl) rfl) rfl ?_
  refine WL.val (.extract (.of rfl) rfl) rfl ?_
  refine WL.val (.assign (.of rfl)) rfl ?_
  refine WL.val (.assign (.of rfl)) rfl ?_
  refine WL.val (.assign (.of rfl)) rfl ?_
  refine WL.nil ?_
  refine WC.seq ?_
  refine WC.region ?_
  refine WL.call Try.func11 rfl (evs_cons (.of rfl) evs_nil) rfl (Compile_err aw3_err B w J2 As hS (by decide)) ?_
  clear hS
  rintro _ w ⟨J3, rfl, hJ3, hS⟩
  replace h1 := (h1.mono hJ2).mono hJ3
  replace h2 := h2.mono hJ3
  refine WL.val (.move (.of rfl)) rfl ?_
  refine WL.val (.extract (.of rfl) rfl) rfl ?_
  refine WL.val (.extract (.of rfl) rfl) rfl ?_
  refine WL.val (.extract (.of rfl) rfl) rfl ?_
  refine WL.val (.assign (.of rfl)) rfl ?_
  refine WL.val (.assign (.of rfl)) rfl ?_
  refine WL.val (.assign (.of rfl)) rfl ?_
  refine WL.nil ?_
  refine WC.seq ?_
  refine WC.seq ?_
  refine WC.region ?_
  refine WL.val (.move (.of rfl)) rfl ?_
  refine WL.val (.eqp (.of rfl) (.of rfl) Try.underlying26) rfl ?_
  refine WL.val (.move (.of rfl)) rfl ?_
  refine WL.gval rfl rfl (fun hg1 => (.move (.of rfl))) rfl ?_
  refine WL.gval rfl rfl (fun hg1 => (.eqp (.gd hg1 rfl) (.of rfl) Try.underlying26)) rfl ?_
  refine WL.val (.por (.of rfl) (.of rfl) (.of rfl)) rfl ?_
  refine WL.nil ?_
  refine WC.cond rfl (fun hb30 => ?_) (fun hb30 => ?_)
  ·
    have hc30 := hb30; try simp only [decide_eq_true_eq, decide_eq_false_iff_not, beq_iff_eq, beq_eq_false_iff_ne, bne_iff_ne, Bool.not_eq_true', Bool.not_eq_false', Bool.or_eq_true, Bool.and_eq_true, Bool.or_eq_false_iff, Bool.and_eq_false_iff, ne_eq, Int.not_lt, Int.not_le, bne_eq_false_iff_eq, Bool.not_eq_true, Bool.not_eq_false] at hc30
    refine WC.seq ?_
    refine WC.region ?_
    refine WL.val (.assign (.of rfl)) rfl ?_
    refine WL.nil ?_
    refine WC.ret ?_
    refine ret1 Try.results9 rfl ?_
    cases hb30
  ·
    have hc30 := hb30; try simp only [decide_eq_true_eq, decide_eq_false_iff_not, beq_iff_eq, beq_eq_false_iff_ne, bne_iff_ne, Bool.not_eq_true', Bool.not_eq_false', Bool.or_eq_true, Bool.and_eq_true, Bool.or_eq_false_iff, Bool.and_eq_false_iff, ne_eq, Int.not_lt, Int.not_le, bne_eq_false_iff_eq, Bool.not_eq_true, Bool.not_eq_false] at hc30
    refine WC.skip ?_
    refine WC.seq ?_
    refine WC.region ?_
    refine WL.val (.move (.of rfl)) rfl ?_
    refine WL.val (.eql (.of rfl) (.of rfl)) rfl ?_
    refine WL.val (.move (.of rfl)) rfl ?_
    refine WL.gval rfl rfl (fun hg1 => (.move (.of rfl))) rfl ?_
    refine WL.gval rfl rfl (fun hg1 => (.eql (.gd hg1 rfl) (.of rfl))) rfl ?_
    refine WL.val (.pand (.of rfl) (.of rfl) (.of rfl)) rfl ?_
    refine WL.val (.move (.of rfl)) rfl ?_
    refine WL.gval rfl rfl (fun hg1 => (.move (.of rfl))) rfl ?_
    refine WL.gval rfl rfl (fun hg1 => (.eql (.gd hg1 rfl) (.of rfl))) rfl ?_
    refine WL.val (.pand (.of rfl) (.of rfl) (.of rfl)) rfl ?_
    refine WL.val (.move (.of rfl)) rfl ?_
    refine WL.gval rfl rfl (fun hg1 => (.move (.of rfl))) rfl ?_
    refine WL.gval rfl rfl (fun hg1 => (.eql (.gd hg1 rfl) (.of rfl))) rfl ?_
    refine WL.val (.pand (.of rfl) (.of rfl) (.of rfl)) rfl ?_
    refine WL.val (.move (.of rfl)) rfl ?_
    refine WL.gval rfl rfl (fun hg1 => (.move (.of rfl))) rfl ?_
    refine WL.gcall (T := fun w => Sat B w J3 As) rfl rfl rfl Try.func15 rfl (fun hg1 => (evs_cons (.gd hg1 rfl) (evs_cons (.of rfl) evs_nil))) rfl (fun hg1 => Match_any aw1_ok p1 _ (by simp) B w J3 As hS h1) hS ?_
    clear hS; intro w hS
    refine WL.val (.pand (.of rfl) (.of rfl) (.of rfl)) rfl ?_
    refine WL.val (.move (.of rfl)) rfl ?_
    refine WL.gval rfl rfl (fun hg1 => (.move (.of rfl))) rfl ?_
    refine WL.gcall (T := fun w => Sat B w J3 As) rfl rfl rfl Try.func15 rfl (fun hg1 => (evs_cons (.gd hg1 rfl) (evs_cons (.of rfl) evs_nil))) rfl (fun hg1 => Match_any aw1_ok p1 _ (by simp) B w J3 As hS h1) hS ?_
    clear hS; intro w hS
    refine WL.gval rfl rfl (fun hg1 => (.not (.gd hg1 rfl))) rfl ?_
    refine WL.val (.pand (.of rfl) (.of rfl) (.of rfl)) rfl ?_
    refine WL.val (.move (.of rfl)) rfl ?_
    refine WL.gval rfl rfl (fun hg1 => (.move (.of rfl))) rfl ?_
    refine WL.gcall (T := fun w => Sat B w J3 As) rfl rfl rfl Try.func15 rfl (fun hg1 => (evs_cons (.gd hg1 rfl) (evs_cons (.of rfl) evs_nil))) rfl (fun hg1 => Match_any aw2_ok p2 _ (by simp) B w J3 As hS h2) hS ?_
    clear hS; intro w hS
    refine WL.val (.pand (.of rfl) (.of rfl) (.of rfl)) rfl ?_
    refine WL.val (.move (.of rfl)) rfl ?_
    refine WL.gval rfl rfl (fun hg1 => (.move (.of rfl))) rfl ?_
    refine WL.gcall (T := fun w => Sat B w J3 As) rfl rfl rfl Try.func15 rfl (fun hg1 => (evs_cons (.gd hg1 rfl) (evs_cons (.of rfl) evs_nil))) rfl (fun hg1 => Match_any aw2_ok p2 _ (by simp) B w J3 As hS h2) hS ?_
    clear hS; intro w hS
    refine WL.val (.pand (.of rfl) (.of rfl) (.of rfl)) rfl ?_
    refine WL.val (.move (.of rfl)) rfl ?_
    refine WL.gval rfl rfl (fun hg1 => (.move (.of rfl))) rfl ?_
    refine WL.gcall (T := fun w => Sat B w J3 As) rfl rfl rfl Try.func15 rfl (fun hg1 => (evs_cons (.gd hg1 rfl) (evs_cons (.of rfl) evs_nil))) rfl (fun hg1 => Match_any aw2_ok p2 _ (by simp) B w J3 As hS h2) hS ?_
    clear hS; intro w hS
    refine WL.gval rfl rfl (fun hg1 => (.not (.gd hg1 rfl))) rfl ?_
    refine WL.val (.pand (.of rfl) (.of rfl) (.of rfl)) rfl ?_
    refine WL.val (.assign (.of rfl)) rfl ?_
    refine WL.nil ?_
    refine WC.ret ?_
    refine ret1 Try.results9 rfl ?_
    refine ⟨_, rfl, ?_, J3, (hJ1.trans hJ2).trans hJ3, hS⟩
    rw [aw_m1, aw_m2, aw_m3, aw_m4, aw_m5]; rfl
theorem CompT_chk {I : Im} {l : List UInt8} {po : Option Addr} {e a : Int} (h : CompT I l po e a) : e = (chk l).1 ∧ a = (chk l).2 ∧ po.isNone = (e != 0) ∧ (po.isNone = false → cmp l ≠ .error (e, a)) := by
  obtain ⟨h1, h2⟩ := cmp_chk l
  unfold CompT at h
  cases hq : cmp l with
  | error x =>
    rw [hq] at h
    obtain ⟨rfl, rfl, rfl⟩ := h
    obtain ⟨h3, h4⟩ := h1 x hq
    rw [h3]
    exact ⟨rfl, rfl, by simp [h4], fun h => by cases h⟩
  | ok Q =>
    rw [hq] at h
    obtain ⟨p, rfl, rfl, rfl, _⟩ := h
    rw [h2 Q hq]
    exact ⟨rfl, rfl, rfl, fun _ h => by cases h⟩
theorem Reads_any (l : List UInt8) (B w : World) (I : Im) (As : List Assn) (hS : Sat B w I As) (hm : l.length ≤ maxLen) :
    Calls Try.prog 5 [S l].toArray w (Ret fun v w' => v = .bool true ∧ ∃ J, Le I J ∧ Sat B w' J As) := by
  refine calls Try.func5 rfl Try.ntmps5 rfl ?_
  refine WC.seq ?_
  refine WC.region ?_
  refine WL.val (.assign (.of rfl)) rfl ?_
  refine WL.nil ?_
  refine WC.seq ?_
  refine WC.region ?_
  refine WL.call Try.func9 rfl evs_nil rfl (awake_any B w I As hS) ?_
  clear hS
  rintro _ w ⟨rfl, J0, hJ0, hS⟩
  refine WL.val (.assign (.of rfl)) rfl ?_
  refine WL.nil ?_
  refine WC.seq ?_
  refine WC.seq ?_
  refine WC.region ?_
  refine WL.val (.move (.of rfl)) rfl ?_
  refine WL.val (.len (.of rfl) Try.underlying9) rfl ?_
  refine WL.val (.gtr (.of rfl) (.of rfl)) rfl ?_
  refine WL.nil ?_
  refine WC.cond rfl (fun hb12 => ?_) (fun hb12 => ?_)
  ·
    have hc12 := hb12; try simp only [decide_eq_true_eq, decide_eq_false_iff_not, beq_iff_eq, beq_eq_false_iff_ne, bne_iff_ne, Bool.not_eq_true', Bool.not_eq_false', Bool.or_eq_true, Bool.and_eq_true, Bool.or_eq_false_iff, Bool.and_eq_false_iff, ne_eq, Int.not_lt, Int.not_le, bne_eq_false_iff_eq, Bool.not_eq_true, Bool.not_eq_false] at hc12
    refine WC.seq ?_
    refine WC.region ?_
    refine WL.val (.move (.of rfl)) rfl ?_
    refine WL.val (.assign (.of rfl)) rfl ?_
    refine WL.nil ?_
    refine WC.ret ?_
    refine ret1 Try.results5 rfl ?_
    exact ⟨_, rfl, rfl, J0, hJ0, hS⟩
  ·
    have hc12 := hb12; try simp only [decide_eq_true_eq, decide_eq_false_iff_not, beq_iff_eq, beq_eq_false_iff_ne, bne_iff_ne, Bool.not_eq_true', Bool.not_eq_false', Bool.or_eq_true, Bool.and_eq_true, Bool.or_eq_false_iff, Bool.and_eq_false_iff, ne_eq, Int.not_lt, Int.not_le, bne_eq_false_iff_eq, Bool.not_eq_true, Bool.not_eq_false] at hc12
    refine WC.skip ?_
    refine WC.seq ?_
    refine WC.region ?_
    refine WL.val (.move (.of rfl)) rfl ?_
    refine WL.call Try.func11 rfl (evs_cons (.of rfl) evs_nil) rfl (Compile_t l B w J0 As hS (by omega)) ?_
    clear hS
    rintro _ w ⟨po, e, a, J1, rfl, hJ1, hc, hS⟩
    refine WL.val (.move (.of rfl)) rfl ?_
    refine WL.val (.extract (.of rfl) rfl) rfl ?_
    refine WL.val (.extract (.of rfl) rfl) rfl ?_
    refine WL.val (.extract (.of rfl) rfl) rfl ?_
    refine WL.val (.assign (.of rfl)) rfl ?_
    refine WL.val (.assign (.of rfl)) rfl ?_
    refine WL.val (.assign (.of rfl)) rfl ?_
    refine WL.nil ?_
    refine WC.seq ?_
    refine WC.region ?_
    refine WL.val (.move (.of rfl)) rfl ?_
    refine WL.call Try.func12 rfl (evs_cons (.of rfl) evs_nil) rfl (Check_any l B w J1 As hS (by omega)) ?_
    clear hS
    rintro _ w ⟨rfl, hS⟩
    refine WL.val (.move (.of rfl)) rfl ?_
    refine WL.val (.extract (.of rfl) rfl) rfl ?_
    refine WL.val (.extract (.of rfl) rfl) rfl ?_
    refine WL.val (.assign (.of rfl)) rfl ?_
    refine WL.val (.assign (.of rfl)) rfl ?_
    refine WL.nil ?_
    refine WC.seq ?_
    refine WC.seq ?_
    obtain ⟨k1, k2, k3, k4⟩ := CompT_chk hc
    refine WC.region ?_
    refine WL.val (.move (.of rfl)) rfl ?_
    refine WL.val (.move (.of rfl)) rfl ?_
    refine WL.val (.neq (.of rfl) (.of rfl)) rfl ?_
    refine WL.val (.move (.of rfl)) rfl ?_
    refine WL.gval rfl rfl (fun hg1 => (.move (.of rfl))) rfl ?_
    refine WL.gval rfl rfl (fun hg1 => (.move (.of rfl))) rfl ?_
    refine WL.gval rfl rfl (fun hg1 => (.neq (.gd hg1 rfl) (.gd hg1 rfl))) rfl ?_
    refine WL.val (.por (.of rfl) (.of rfl) (.of rfl)) rfl ?_
    refine WL.val (.move (.of rfl)) rfl ?_
    refine WL.gval rfl rfl (fun hg1 => (.move (.of rfl))) rfl ?_
    refine WL.gval rfl rfl (fun hg1 => (.eqp (.gd hg1 rfl) (.of rfl) Try.underlying26)) rfl ?_
    refine WL.gval rfl rfl (fun hg1 => (.move (.of rfl))) rfl ?_
    refine WL.gval rfl rfl (fun hg1 => (.neq (.gd hg1 rfl) (.of rfl))) rfl ?_
    refine WL.gval rfl rfl (fun hg1 => (.neb (.gd hg1 rfl) (.gd hg1 rfl) Try.underlying4)) rfl ?_
    refine WL.val (.por (.of rfl) (.of rfl) (.of rfl)) rfl ?_
    refine WL.nil ?_
    refine WC.cond rfl (fun hb39 => ?_) (fun hb39 => ?_)
    ·
      have hc39 := hb39; try simp only [decide_eq_true_eq, decide_eq_false_iff_not, beq_iff_eq, beq_eq_false_iff_ne, bne_iff_ne, Bool.not_eq_true', Bool.not_eq_false', Bool.or_eq_true, Bool.and_eq_true, Bool.or_eq_false_iff, Bool.and_eq_false_iff, ne_eq, Int.not_lt, Int.not_le, bne_eq_false_iff_eq, Bool.not_eq_true, Bool.not_eq_false] at hc39
      refine WC.seq ?_
      refine WC.region ?_
      refine WL.val (.assign (.of rfl)) rfl ?_
      refine WL.nil ?_
      refine WC.ret ?_
      refine ret1 Try.results5 rfl ?_
      exfalso
      rw [k1, k2] at hb39
      simp at hb39
      rw [k1] at k3
      rw [k3] at hb39
      simp at hb39
    ·
      have hc39 := hb39; try simp only [decide_eq_true_eq, decide_eq_false_iff_not, beq_iff_eq, beq_eq_false_iff_ne, bne_iff_ne, Bool.not_eq_true', Bool.not_eq_false', Bool.or_eq_true, Bool.and_eq_true, Bool.or_eq_false_iff, Bool.and_eq_false_iff, ne_eq, Int.not_lt, Int.not_le, bne_eq_false_iff_eq, Bool.not_eq_true, Bool.not_eq_false] at hc39
      refine WC.skip ?_
      refine WC.seq ?_
      refine WC.region ?_
      refine WL.val (.move (.of rfl)) rfl ?_
      refine WL.val (.move (.of rfl)) rfl ?_
      refine WL.gval rfl rfl (fun hg1 => (.move (.of rfl))) rfl ?_
      refine WL.gval rfl rfl (fun hg1 => (.eqp (.gd hg1 rfl) (.of rfl) Try.underlying26)) rfl ?_
      refine WL.gval rfl rfl (fun hg1 => (.move (.gd hg1 rfl))) rfl ?_
      refine WL.gval2 rfl rfl rfl (fun hg1 hg2 => (.move (.of rfl))) rfl ?_
      refine WL.gcall2 (T := fun w => Sat B w J1 As) rfl rfl rfl Try.func13 rfl (fun hg1 hg2 => (evs_cons (.gd2 hg1 hg2 rfl) evs_nil)) rfl (fun hg1 hg2 => Size_opt hg2 B w J1 As hS hc) hS ?_
      clear hS; intro w hS
      refine WL.gval2 rfl rfl rfl (fun hg1 hg2 => (.move (.of rfl))) rfl ?_
      refine WL.gval2 rfl rfl rfl (fun hg1 hg2 => (.len (.gd2 hg1 hg2 rfl) Try.underlying9)) rfl ?_
      refine WL.gval2 rfl rfl rfl (fun hg1 hg2 => (.eql (.gd2 hg1 hg2 rfl) (.gd2 hg1 hg2 rfl))) rfl ?_
      refine WL.gval rfl rfl (fun hg1 => (.por (.gd hg1 rfl) (.of rfl) (.gd hg1 rfl))) rfl ?_
      refine WL.val (.pand (.of rfl) (.of rfl) (.of rfl)) rfl ?_
      refine WL.val (.assign (.of rfl)) rfl ?_
      refine WL.nil ?_
      refine WC.ret ?_
      refine ret1 Try.results5 rfl ?_
      refine ⟨_, rfl, ?_, J1, hJ0.trans hJ1, hS⟩
      cases po <;> simp [gd]
end Go.Proofs.Ytigmejjkmoaimaa
