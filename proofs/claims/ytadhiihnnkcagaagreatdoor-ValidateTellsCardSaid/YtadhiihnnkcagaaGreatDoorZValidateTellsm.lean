/- 'ValidateTells': what the card says. -/
import Derived.Test.YtadhiihnnkcagaaGreatDoorM2VH
import Derived.Test.YtadhiihnnkcagaaGreatDoorRows
import Derived.Test.YtadhiihnnkcagaaGreatDoorCards
import Derived.Test.YtadhiihnnkcagaaGreatDoorTie
import Derived.WalkKit
import Derived.ProofKit
import Derived.OpenShut
import Derived.KernelRfl
import Derived.LaidOnce
import Derived.SevenTiedAt
namespace Go.Proofs.YtadhiihnnkcagaaGreatDoor.validateTells
open Go.ChangeShapes Go.WideShapes Go.ChangeAt Go.RowKit Gk
open Go.ChangeMaps (open_string shut_string)
set_option linter.unusedVariables false
theorem knob : ownKnob Tryz.prog.godebug = none := by kernel_rfl
theorem laidOut : laidOutB Tryz.prog = true := by kernel_rfl
theorem plainLaid : (Rows.validateTellsRow.laid.all fun x => x.2.handleName?.isNone) = true := by kernel_rfl
theorem wit1 (os : Os) : ((World.laidAll Tryz.prog os Rows.validateTellsRow.laid).forCall (fun _ _ => 0) ⟨#[], #[.agg #[.slice none 0 0, .slice none 0 0, .int .i64 0, .int .i64 0, .int .i64 0, .int .i64 0, .int .i64 0, .int .i64 0, .int .i64 0, .int .i64 0, .int .i64 0, .int .i64 0, .int .i64 0, .int .i64 0, .int .i64 0, .int .i64 0, .int .i64 0, .int .i64 0, .int .i64 0, .int .i64 0, .int .i64 0, .int .i64 0, .int .i64 0, .int .i64 0, .float .f64 0, .float .f64 0, .float .f64 0, .int .i64 0], .slice none 0 0, .int .i64 0, .slice none 0 0, .int .i64 0], []⟩).Shaped Tryz.prog := World.shaped_of_ZipB (by kernel_rfl) (by kernel_rfl)
theorem wit2 (os : Os) : laidMetH Tryz.prog Rows.validateTellsRow.laid ((World.laidAll Tryz.prog os Rows.validateTellsRow.laid).forCall (fun _ _ => 0) ⟨#[], #[.agg #[.slice none 0 0, .slice none 0 0, .int .i64 0, .int .i64 0, .int .i64 0, .int .i64 0, .int .i64 0, .int .i64 0, .int .i64 0, .int .i64 0, .int .i64 0, .int .i64 0, .int .i64 0, .int .i64 0, .int .i64 0, .int .i64 0, .int .i64 0, .int .i64 0, .int .i64 0, .int .i64 0, .int .i64 0, .int .i64 0, .int .i64 0, .int .i64 0, .float .f64 0, .float .f64 0, .float .f64 0, .int .i64 0], .slice none 0 0, .int .i64 0, .slice none 0 0, .int .i64 0], []⟩).memory := by
  rw [MakeChecks.laidMetH_plain _ _ _ plainLaid]
  exact laidMet_laidAll _ (by kernel_rfl) (by kernel_rfl)
theorem wit3 (os : Os) : Input.okWideB Tryz.checked.prog ((World.laidAll Tryz.prog os Rows.validateTellsRow.laid).forCall (fun _ _ => 0) ⟨#[], #[.agg #[.slice none 0 0, .slice none 0 0, .int .i64 0, .int .i64 0, .int .i64 0, .int .i64 0, .int .i64 0, .int .i64 0, .int .i64 0, .int .i64 0, .int .i64 0, .int .i64 0, .int .i64 0, .int .i64 0, .int .i64 0, .int .i64 0, .int .i64 0, .int .i64 0, .int .i64 0, .int .i64 0, .int .i64 0, .int .i64 0, .int .i64 0, .int .i64 0, .float .f64 0, .float .f64 0, .float .f64 0, .int .i64 0], .slice none 0 0, .int .i64 0, .slice none 0 0, .int .i64 0], []⟩) 6 ⟨#[], #[.agg #[.slice none 0 0, .slice none 0 0, .int .i64 0, .int .i64 0, .int .i64 0, .int .i64 0, .int .i64 0, .int .i64 0, .int .i64 0, .int .i64 0, .int .i64 0, .int .i64 0, .int .i64 0, .int .i64 0, .int .i64 0, .int .i64 0, .int .i64 0, .int .i64 0, .int .i64 0, .int .i64 0, .int .i64 0, .int .i64 0, .int .i64 0, .int .i64 0, .float .f64 0, .float .f64 0, .float .f64 0, .int .i64 0], .slice none 0 0, .int .i64 0, .slice none 0 0, .int .i64 0], []⟩ = true := by kernel_rfl
theorem wit4 (os : Os) (H : Type) (enc : TypeId × Value → H) : Rows.validateTellsSpec.preB enc Tryz.checked.prog Tryz.f6 Rows.validateTellsRow.domain false ((World.laidAll Tryz.prog os Rows.validateTellsRow.laid).forCall (fun _ _ => 0) ⟨#[], #[.agg #[.slice none 0 0, .slice none 0 0, .int .i64 0, .int .i64 0, .int .i64 0, .int .i64 0, .int .i64 0, .int .i64 0, .int .i64 0, .int .i64 0, .int .i64 0, .int .i64 0, .int .i64 0, .int .i64 0, .int .i64 0, .int .i64 0, .int .i64 0, .int .i64 0, .int .i64 0, .int .i64 0, .int .i64 0, .int .i64 0, .int .i64 0, .int .i64 0, .float .f64 0, .float .f64 0, .float .f64 0, .int .i64 0], .slice none 0 0, .int .i64 0, .slice none 0 0, .int .i64 0], []⟩).memory #[.agg #[.slice none 0 0, .slice none 0 0, .int .i64 0, .int .i64 0, .int .i64 0, .int .i64 0, .int .i64 0, .int .i64 0, .int .i64 0, .int .i64 0, .int .i64 0, .int .i64 0, .int .i64 0, .int .i64 0, .int .i64 0, .int .i64 0, .int .i64 0, .int .i64 0, .int .i64 0, .int .i64 0, .int .i64 0, .int .i64 0, .int .i64 0, .int .i64 0, .float .f64 0, .float .f64 0, .float .f64 0, .int .i64 0], .slice none 0 0, .int .i64 0, .slice none 0 0, .int .i64 0] 8 = true := by kernel_rfl
theorem wit5 (os : Os) (H : Type) (enc : TypeId × Value → H) : Rows.validateTellsSpec.sizedB enc Tryz.checked.prog Tryz.f6 false ((World.laidAll Tryz.prog os Rows.validateTellsRow.laid).forCall (fun _ _ => 0) ⟨#[], #[.agg #[.slice none 0 0, .slice none 0 0, .int .i64 0, .int .i64 0, .int .i64 0, .int .i64 0, .int .i64 0, .int .i64 0, .int .i64 0, .int .i64 0, .int .i64 0, .int .i64 0, .int .i64 0, .int .i64 0, .int .i64 0, .int .i64 0, .int .i64 0, .int .i64 0, .int .i64 0, .int .i64 0, .int .i64 0, .int .i64 0, .int .i64 0, .int .i64 0, .float .f64 0, .float .f64 0, .float .f64 0, .int .i64 0], .slice none 0 0, .int .i64 0, .slice none 0 0, .int .i64 0], []⟩).memory #[.agg #[.slice none 0 0, .slice none 0 0, .int .i64 0, .int .i64 0, .int .i64 0, .int .i64 0, .int .i64 0, .int .i64 0, .int .i64 0, .int .i64 0, .int .i64 0, .int .i64 0, .int .i64 0, .int .i64 0, .int .i64 0, .int .i64 0, .int .i64 0, .int .i64 0, .int .i64 0, .int .i64 0, .int .i64 0, .int .i64 0, .int .i64 0, .int .i64 0, .float .f64 0, .float .f64 0, .float .f64 0, .int .i64 0], .slice none 0 0, .int .i64 0, .slice none 0 0, .int .i64 0] 8 = true := by kernel_rfl
theorem wit (os : Os) (H : Type) (enc : TypeId × Value → H) : WitT enc {} Tryz.checked os 6 Tryz.f6 Rows.validateTellsSpec Rows.validateTellsRow.domain false (fun w _ => laidMetH Tryz.prog Rows.validateTellsRow.laid w) :=
  ChangeSpec.witness_shaped (X := (fun w _ => laidMetH Tryz.prog Rows.validateTellsRow.laid w)) false (World.laidAll Tryz.prog os Rows.validateTellsRow.laid) #[.agg #[.slice none 0 0, .slice none 0 0, .int .i64 0, .int .i64 0, .int .i64 0, .int .i64 0, .int .i64 0, .int .i64 0, .int .i64 0, .int .i64 0, .int .i64 0, .int .i64 0, .int .i64 0, .int .i64 0, .int .i64 0, .int .i64 0, .int .i64 0, .int .i64 0, .int .i64 0, .int .i64 0, .int .i64 0, .int .i64 0, .int .i64 0, .int .i64 0, .float .f64 0, .float .f64 0, .float .f64 0, .int .i64 0], .slice none 0 0, .int .i64 0, .slice none 0 0, .int .i64 0] 8 (World.laidAll_os _ _ _) (wit1 os) (wit3 os) (wit4 os H enc) (wit5 os H enc) (wit2 os)
set_option maxRecDepth 100000 in
theorem lifted (os : Os) (started : os.Started) (H : Type) (enc : TypeId × Value → H) :
    ReturnsInHanded {} Tryz.checked os 6 .any (fun w args => (Rows.validateTellsSpec.pre enc Tryz.prog Tryz.f6 Rows.validateTellsRow.domain false w args ∧ laidMetH Tryz.prog Rows.validateTellsRow.laid w) ∧ sizedMet enc Tryz.prog Tryz.f6 (OpenSpec.ofChange Rows.validateTellsSpec) false w args) (Rows.validateTellsSpec.post enc Tryz.prog Tryz.f6 false true false false) := by
  refine X68 (C := Tryz.checked) (X := (fun w _ => laidMetH Tryz.prog Rows.validateTellsRow.laid w)) (fun _ _ _ hh h => h.of_heap hh) knob started (by kernel_rfl) Tryz.func6 (wit os H enc) ?_
  intro W base args ds gs before hval0 hW hL0 hsh
  have hL := hL0
  rw [MakeChecks.laidMetH_plain _ _ _ plainLaid] at hL
  have hK := Xm7 (Lib.laidMet.reads hL (.tail _ (.tail _ (.tail _ (.tail _ (.head _)))))) (Lib.laidMet.reads hL (.tail _ (.tail _ (.head _)))) (Lib.laidMet.reads hL (.tail _ (.tail _ (.tail _ (.tail _ (.tail _ (.head _))))))) hsh
  have hval : ∀ (j : Nat) t v, Tryz.f6.params[j]? = some t → args[j]? = some v → Value.okWide Tryz.prog W .any base t v := hval0
  have hW' := hW
  obtain ⟨p, q, hA0, hV, rfl, hfz, hnd⟩ := hW
  have hA : DataW.TrodAll enc Tryz.prog W 0 (fun _ => true) true Tryz.f6.params.toList args.toList ds p := hA0
  rw [Tryz.params6] at hA hval
  obtain ⟨v0, vs0, d0, ds0, p0, q0, hargs, rfl, rfl, h0, r0⟩ := trodAll_cons hA
  obtain ⟨v1, vs1, d1, ds1, p1, q1, rfl, rfl, rfl, h1, r1⟩ := trodAll_cons r0
  obtain ⟨v2, vs2, d2, ds2, p2, q2, rfl, rfl, rfl, h2, r2⟩ := trodAll_cons r1
  obtain ⟨v3, vs3, d3, ds3, p3, q3, rfl, rfl, rfl, h3, r3⟩ := trodAll_cons r2
  obtain ⟨v4, vs4, d4, ds4, p4, q4, rfl, rfl, rfl, h4, r4⟩ := trodAll_cons r3
  obtain ⟨rfl, rfl, rfl⟩ := trodAll_nil r4
  obtain rfl : args = #[v0, v1, v2, v3, v4] := by cases args; simp_all
  obtain ⟨rfl, rfl⟩ := trodVars_none hV
  have k0 := h0
  obtain ⟨f0, hf0⟩ := h0
  obtain ⟨ar0, rfl, hsz0⟩ := Go.WideShapes.okWide_struct Tryz.underlying34 (hval 0 34 v0 rfl rfl)
  obtain ⟨c0, a0, cap0, ua0, ucap0, e0, hC0⟩ := Xmu hf0
  have ee0 : ar0 = (Xz c0 a0 cap0 ua0 ucap0).toArray := Array.ext' (by simpa [Value.cells] using e0)
  subst ee0
  have k1 := h1
  obtain ⟨f1, hf1⟩ := h1
  obtain ⟨sa1, sn1, sc1, rfl⟩ := Go.WideShapes.okWide_slice Tryz.underlying35 (hval 1 35 v1 rfl rfl)
  obtain ⟨a1, cap1, l1, hc1, hcap1, hcm1, hR1, hfit1⟩ := X98 (cells := X7) (c := 10) (fit := Xob) Tryz.underlying35 (by kernel_rfl) (by decide) (fun n cs y h => Xnh h) hf1
  simp [Value.cells] at hc1
  obtain ⟨rfl, rfl, rfl⟩ := hc1
  obtain ⟨s2, rfl, rfl, rfl, w2⟩ := open_int Tryz.underlying3 (hval 2 3 v2 rfl rfl) h2
  have k3 := h3
  obtain ⟨f3, hf3⟩ := h3
  obtain ⟨sa3, sn3, sc3, rfl⟩ := Go.WideShapes.okWide_slice Tryz.underlying36 (hval 3 36 v3 rfl rfl)
  obtain ⟨a3, cap3, l3, hc3, hcap3, hcm3, hR3, hfit3⟩ := X98 (cells := X29) (c := 4) (fit := qrFit) Tryz.underlying36 (by kernel_rfl) (by decide) (fun n cs y h => Xn6 h) hf3
  simp [Value.cells] at hc3
  obtain ⟨rfl, rfl, rfl⟩ := hc3
  obtain ⟨s4, rfl, rfl, rfl, w4⟩ := open_int Tryz.underlying22 (hval 4 22 v4 rfl rfl) h4
  clear hA0 hval0
  simp only [List.append_nil] at hW'
  refine (X6o c0 a0 cap0 ua0 ucap0 _ sc1 l1 (Nat.le_trans hcap1 hcm1) _ sc3 l3 (Nat.le_trans hcap3 hcm3) s2 s4  W W (im0 W) hK.1 hK.2 hC0 hR1 hR3 [] (sat0 W)).mono fun e W' he => ?_
  obtain ⟨_, rfl, rfl, J, hJ, hS⟩ := he
  exact ⟨_, rfl, Xkm (pv := []) hW' (hS.below hJ) (fun _ _ _ => (trodAll_cons_mk (shut_bool Tryz.underlying4 _) trodAll_mk0)) ((trodAll_cons_mk (Go.RowKit.Below.trod laidOut (by kernel_rfl) (of_decide_eq_true (by kernel_rfl)) k0 (hS.below hJ) (fun x hx => by simpa using hW'.lt x (by simp [hx]))) (trodAll_cons_mk (Go.RowKit.Below.trod laidOut (by kernel_rfl) (of_decide_eq_true (by kernel_rfl)) k1 (hS.below hJ) (fun x hx => by simpa using hW'.lt x (by simp [hx]))) (trodAll_cons_mk (shut_int Tryz.underlying3 w2) (trodAll_cons_mk (Go.RowKit.Below.trod laidOut (by kernel_rfl) (of_decide_eq_true (by kernel_rfl)) k3 (hS.below hJ) (fun x hx => by simpa using hW'.lt x (by simp [hx]))) (trodAll_cons_mk (shut_int Tryz.underlying22 w4) trodAll_mk0)))))) rfl (by simp)⟩
theorem jand {a b : Bool} (h : a = true) (k : b = true) : (a && b) = true := by rw [h, k]; rfl
theorem j0 : (Rows.validateTellsRow.wf (OpenSpec.ofChange Rows.validateTellsSpec)) = true := by kernel_rfl
theorem j1 : (laidOutB Tryz.prog) = true := by kernel_rfl
theorem j2 : (mapsRowed Tryz.prog) = true := by kernel_rfl
theorem j3 : (Tryz.f6.params.all (Tryz.prog.readableRec ·)) = true := by kernel_rfl
theorem j4 : (namedTie Tryz.prog Rows.validateTellsRow.named Rows.validateTellsSpec.vars) = true := by kernel_rfl
theorem j5 : ((Rows.validateTellsRow.stops == [])) = true := by kernel_rfl
theorem j6 : ((Tryz.prog.stops == [])) = true := by kernel_rfl
theorem j7 : ((Rows.validateTellsRow.knobs == [])) = true := by kernel_rfl
theorem j8 : ((Tryz.prog.stopKnobs == [])) = true := by kernel_rfl
theorem j9 : ((Rows.validateTellsRow.inPlace == Tryz.prog.inPlace 6)) = true := by kernel_rfl
theorem j10 : ((Rows.validateTellsRow.unfollowed == Tryz.prog.unfollowed 6)) = true := by kernel_rfl
theorem j11 : ((Rows.validateTellsRow.recurses == Tryz.prog.recurses 6)) = true := by kernel_rfl
theorem j12 : ((Rows.validateTellsRow.named == Tryz.prog.varsNamed 6)) = true := by kernel_rfl
theorem j13 : ((Rows.validateTellsRow.maps == (Tryz.f6.params.toList ++ Rows.validateTellsSpec.plain.varTypes Tryz.prog).any (Tryz.prog.mapsRec ·))) = true := by kernel_rfl
theorem j14 : ((Rows.validateTellsRow.ifaces == (Tryz.f6.params.toList ++ Rows.validateTellsSpec.plain.varTypes Tryz.prog).any (Tryz.prog.ifacesRec ·))) = true := by kernel_rfl
theorem j15 : ((Rows.validateTellsRow.mapsOut == Tryz.prog.mapsAmong Tryz.f6.resultTypes.toList)) = true := by kernel_rfl
theorem j16 : ((Rows.validateTellsRow.loops == (Tryz.f6.params.toList ++ Rows.validateTellsSpec.plain.varTypes Tryz.prog).any (Tryz.prog.loopsFrom ·))) = true := by kernel_rfl
theorem j17 : ((Rows.validateTellsRow.wideKeys == (Tryz.f6.params.toList ++ Rows.validateTellsSpec.plain.varTypes Tryz.prog ++ Tryz.f6.resultTypes.toList).any (Tryz.prog.wideKeysFrom ·))) = true := by kernel_rfl
theorem j18 : (Rows.validateTellsSpec.vars.all (Tryz.prog.varReadable ·)) = true := by kernel_rfl
theorem j19 : (Tryz.f6.resultTypes.all (fun t => Tryz.prog.readableRec t && decide (t < Tryz.prog.types.size))) = true := by kernel_rfl
theorem j20 : ((Rows.validateTellsRow.ifacesOut == Tryz.f6.resultTypes.toList.any (Tryz.prog.ifacesRec ·))) = true := by kernel_rfl
theorem j21 : ((Rows.validateTellsRow.loopsOut == Tryz.f6.resultTypes.toList.any (Tryz.prog.loopsFrom ·))) = true := by kernel_rfl
theorem j22 : ((Rows.validateTellsRow.plainKeys == Tryz.prog.plainKeys)) = true := by kernel_rfl
theorem j23 : (Rows.validateTellsRow.shortTexts.isNone) = true := by kernel_rfl
theorem j24 : (Tryz.prog.stopsHeard) = true := by kernel_rfl
theorem j25 : (Tryz.prog.mayEnter) = true := by kernel_rfl
theorem j26 : ((Rows.validateTellsRow.lifted == Tryz.prog.liftsFinal)) = true := by kernel_rfl
theorem j27 : ((Tryz.prog.make == some Rows.validateTellsRow.make)) = true := by kernel_rfl
theorem j28 : ((Rows.validateTellsRow.kinds == (if Rows.validateTellsRow.domain.isEmpty then [] else Tryz.f6.params.toList.map fun t => match Tryz.prog.underlying t with | some (.int k) => some k | _ => none))) = true := by kernel_rfl
theorem j29 : ((Rows.validateTellsRow.pinned == Rows.validateTellsRow.pinnedBy)) = true := by kernel_rfl
theorem j30 : ((Rows.validateTellsRow.veiled == (Tryz.f6.params.toList ++ Rows.validateTellsSpec.plain.varTypes Tryz.prog ++ Tryz.f6.resultTypes.toList).any (Tryz.prog.veiledRec ·))) = true := by kernel_rfl
theorem j31 : (Rows.validateTellsRow.veiledFits Tryz.prog Tryz.f6.params.toList (Tryz.f6.params.toList ++ Rows.validateTellsSpec.plain.varTypes Tryz.prog ++ Tryz.f6.resultTypes.toList)) = true := by kernel_rfl
set_option maxRecDepth 100000 in
theorem facts : joinedFacts Tryz.prog 6 Tryz.f6 Rows.validateTellsSpec Rows.validateTellsRow = true := by
  unfold joinedFacts
  exact (jand (jand (jand (jand (jand (jand (jand (jand (jand (jand (jand (jand (jand (jand (jand (jand (jand (jand (jand (jand (jand (jand (jand (jand (jand (jand (jand (jand (jand (jand (jand j0 j1) j2) j3) j4) j5) j6) j7) j8) j9) j10) j11) j12) j13) j14) j15) j16) j17) j18) j19) j20) j21) j22) j23) j24) j25) j26) j27) j28) j29) j30) j31)
theorem over : Rows.validateTellsRow.holds Tryz.pinned (OpenSpec.ofChange Rows.validateTellsSpec) :=
  OpenClaim.holds_of_wide 6 Tryz.f6 rfl rfl rfl rfl rfl rfl rfl ⟨rfl, rfl, rfl, rfl, rfl⟩ rfl rfl rfl rfl rfl (by kernel_rfl) Tryz.func6 facts
    (of_decide_eq_true (by kernel_rfl)) (by unfold Func.isWrapper; first | (rw [if_pos (by decide +kernel)]; kernel_rfl) | (rw [if_neg (by decide +kernel)]; exact ⟨rfl, rfl⟩))
    (fun os started H enc _ => lifted os started H enc)
end Go.Proofs.YtadhiihnnkcagaaGreatDoor.validateTells
namespace Go.Proofs.YtadhiihnnkcagaaGreatDoor
theorem validateTells : Rows.ValidateTellsCardSaid :=
  Claim7.holds_tied_plain_at .later [] [.data, .data, .data, .data, .data, .widerDeep, .pinned] true (true, "ab201521280da2ff598e2fff5b5ac2b486f821943f5863e0f88b6e8751cf499e") false validateTells.over (fun _ h => by cases h) (by kernel_rfl) (fun _ h => by cases h) validateTells_row_tie rfl ⟨rfl, rfl⟩ (by kernel_rfl) rfl
    (fun f fn hf hfn => by
      obtain rfl : f = 6 := Option.some.inj ((show Tryz.prog.funcNamed "matricula/matriculalaw21.ValidateTells" = some 6 by kernel_rfl).symm.trans hf) |>.symm
      obtain rfl : fn = Tryz.f6 := (Option.some.inj (Tryz.func6.symm.trans hfn)).symm
      exact ⟨by kernel_rfl, fun j t ht => by
        rw [Tryz.params6] at ht
        have hm : t ∈ [34, 35, 3, 36, 22] := by simpa using Array.mem_of_getElem? ht
        have hall : ([34, 35, 3, 36, 22].all fun u => !Tryz.prog.wantsStandIn u) = true := by kernel_rfl
        exact (show Tryz.prog.wantsStandIn t = false by simpa using List.all_eq_true.1 hall t hm)⟩)
    (by kernel_rfl)
end Go.Proofs.YtadhiihnnkcagaaGreatDoor
