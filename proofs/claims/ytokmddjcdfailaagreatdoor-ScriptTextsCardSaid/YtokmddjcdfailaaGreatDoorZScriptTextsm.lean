/- 'ScriptTexts': what the card says. -/
import Derived.Test.YtokmddjcdfailaaGreatDoorM26E
import Derived.Test.YtokmddjcdfailaaGreatDoorRows
import Derived.Test.YtokmddjcdfailaaGreatDoorCards
import Derived.Test.YtokmddjcdfailaaGreatDoorTie
import Derived.WalkKit
import Derived.ProofKit
import Derived.OpenShut
import Derived.KernelRfl
import Derived.LaidOnce
import Derived.SevenTiedAt
namespace Go.Proofs.YtokmddjcdfailaaGreatDoor.scriptTexts
open Go.ChangeShapes Go.WideShapes Go.ChangeAt Go.RowKit Gk
open Go.ChangeMaps (open_string shut_string)
set_option linter.unusedVariables false
theorem knob : ownKnob Tryz.prog.godebug = none := by kernel_rfl
theorem laidOut : laidOutB Tryz.prog = true := by kernel_rfl
theorem plainLaid : (Rows.scriptTextsRow.laid.all fun x => x.2.handleName?.isNone) = true := by kernel_rfl
theorem wit1 (os : Os) : ((World.laidAll Tryz.prog os Rows.scriptTextsRow.laid).forCall (fun _ _ => 0) ⟨#[], #[.string ⟨#[]⟩, .slice none 0 0, .slice none 0 0], []⟩).Shaped Tryz.prog := World.shaped_of_ZipB (by kernel_rfl) (by kernel_rfl)
theorem wit2 (os : Os) : laidMetH Tryz.prog Rows.scriptTextsRow.laid ((World.laidAll Tryz.prog os Rows.scriptTextsRow.laid).forCall (fun _ _ => 0) ⟨#[], #[.string ⟨#[]⟩, .slice none 0 0, .slice none 0 0], []⟩).memory := by
  rw [MakeChecks.laidMetH_plain _ _ _ plainLaid]
  exact laidMet_laidAll _ (by kernel_rfl) (by kernel_rfl)
theorem wit3 (os : Os) : Input.okWideB Tryz.checked.prog ((World.laidAll Tryz.prog os Rows.scriptTextsRow.laid).forCall (fun _ _ => 0) ⟨#[], #[.string ⟨#[]⟩, .slice none 0 0, .slice none 0 0], []⟩) 3 ⟨#[], #[.string ⟨#[]⟩, .slice none 0 0, .slice none 0 0], []⟩ = true := by kernel_rfl
theorem wit4 (os : Os) (H : Type) (enc : TypeId × Value → H) : Rows.scriptTextsSpec.preB enc Tryz.checked.prog Tryz.f3 Rows.scriptTextsRow.domain false ((World.laidAll Tryz.prog os Rows.scriptTextsRow.laid).forCall (fun _ _ => 0) ⟨#[], #[.string ⟨#[]⟩, .slice none 0 0, .slice none 0 0], []⟩).memory #[.string ⟨#[]⟩, .slice none 0 0, .slice none 0 0] 8 = true := by kernel_rfl
theorem wit5 (os : Os) (H : Type) (enc : TypeId × Value → H) : Rows.scriptTextsSpec.sizedB enc Tryz.checked.prog Tryz.f3 false ((World.laidAll Tryz.prog os Rows.scriptTextsRow.laid).forCall (fun _ _ => 0) ⟨#[], #[.string ⟨#[]⟩, .slice none 0 0, .slice none 0 0], []⟩).memory #[.string ⟨#[]⟩, .slice none 0 0, .slice none 0 0] 8 = true := by kernel_rfl
theorem wit (os : Os) (H : Type) (enc : TypeId × Value → H) : WitT enc {} Tryz.checked os 3 Tryz.f3 Rows.scriptTextsSpec Rows.scriptTextsRow.domain false (fun w _ => laidMetH Tryz.prog Rows.scriptTextsRow.laid w) :=
  ChangeSpec.witness_shaped (X := (fun w _ => laidMetH Tryz.prog Rows.scriptTextsRow.laid w)) false (World.laidAll Tryz.prog os Rows.scriptTextsRow.laid) #[.string ⟨#[]⟩, .slice none 0 0, .slice none 0 0] 8 (World.laidAll_os _ _ _) (wit1 os) (wit3 os) (wit4 os H enc) (wit5 os H enc) (wit2 os)
set_option maxRecDepth 100000 in
theorem lifted (os : Os) (started : os.Started) (H : Type) (enc : TypeId × Value → H) :
    ReturnsInHanded {} Tryz.checked os 3 .any (fun w args => (Rows.scriptTextsSpec.pre enc Tryz.prog Tryz.f3 Rows.scriptTextsRow.domain false w args ∧ laidMetH Tryz.prog Rows.scriptTextsRow.laid w) ∧ sizedMet enc Tryz.prog Tryz.f3 (OpenSpec.ofChange Rows.scriptTextsSpec) false w args) (Rows.scriptTextsSpec.post enc Tryz.prog Tryz.f3 false true false false) := by
  refine X3s (C := Tryz.checked) (X := (fun w _ => laidMetH Tryz.prog Rows.scriptTextsRow.laid w)) (fun _ _ _ hh h => h.of_heap hh) knob started (by kernel_rfl) Tryz.func3 (wit os H enc) ?_
  intro W base args ds gs before hval0 hW hL0 hsh
  have hL := hL0
  rw [MakeChecks.laidMetH_plain _ _ _ plainLaid] at hL
  have hK := Xfv (Lib.laidMet.reads hL (.tail _ (.tail _ (.tail _ (.tail _ (.tail _ (.head _))))))) (Lib.laidMet.reads hL (.tail _ (.tail _ (.head _)))) (Lib.laidMet.reads hL (.tail _ (.tail _ (.tail _ (.tail _ (.tail _ (.tail _ (.head _)))))))) (Lib.laidMet.reads hL (.tail _ (.tail _ (.tail _ (.tail _ (.tail _ (.tail _ (.tail _ (.head _))))))))) (Lib.laidMet.reads hL (.tail _ (.tail _ (.tail _ (.head _))))) hsh
  have hval : ∀ (j : Nat) t v, Tryz.f3.params[j]? = some t → args[j]? = some v → Value.okWide Tryz.prog W .any base t v := hval0
  have hW' := hW
  obtain ⟨p, q, hA0, hV, rfl, hfz, hnd⟩ := hW
  have hA : DataW.TrodAll enc Tryz.prog W 0 (fun _ => true) true Tryz.f3.params.toList args.toList ds p := hA0
  rw [Tryz.params3] at hA hval
  obtain ⟨v0, vs0, d0, ds0, p0, q0, hargs, rfl, rfl, h0, r0⟩ := trodAll_cons hA
  obtain ⟨v1, vs1, d1, ds1, p1, q1, rfl, rfl, rfl, h1, r1⟩ := trodAll_cons r0
  obtain ⟨v2, vs2, d2, ds2, p2, q2, rfl, rfl, rfl, h2, r2⟩ := trodAll_cons r1
  obtain ⟨rfl, rfl, rfl⟩ := trodAll_nil r2
  obtain rfl : args = #[v0, v1, v2] := by cases args; simp_all
  obtain ⟨rfl, rfl⟩ := trodVars_none hV
  obtain ⟨s0, rfl, rfl, rfl, w0⟩ := open_string Tryz.underlying9 (hval 0 9 v0 rfl rfl) h0
  have k1 := h1
  obtain ⟨f1, hf1⟩ := h1
  obtain ⟨sa1, sn1, sc1, rfl⟩ := Go.WideShapes.okWide_slice Tryz.underlying22 (hval 1 22 v1 rfl rfl)
  obtain ⟨a1, cap1, l1, hc1, hcap1, hcm1, hR1, hfit1⟩ := X8m (cells := tC) (c := 1) (fit := fun z => z.length ≤ 9223372036854775807) Tryz.underlying22 (by kernel_rfl) (by decide) (fun n cs y h => Xb5 Tryz.underlying9 h) hf1
  simp [Value.cells] at hc1
  obtain ⟨rfl, rfl, rfl⟩ := hc1
  rw [X6t] at hR1
  have k2 := h2
  obtain ⟨f2, hf2⟩ := h2
  obtain ⟨sa2, sn2, sc2, rfl⟩ := Go.WideShapes.okWide_slice Tryz.underlying22 (hval 2 22 v2 rfl rfl)
  obtain ⟨a2, cap2, l2, hc2, hcap2, hcm2, hR2, hfit2⟩ := X8m (cells := tC) (c := 1) (fit := fun z => z.length ≤ 9223372036854775807) Tryz.underlying22 (by kernel_rfl) (by decide) (fun n cs y h => Xb5 Tryz.underlying9 h) hf2
  simp [Value.cells] at hc2
  obtain ⟨rfl, rfl, rfl⟩ := hc2
  rw [X6t] at hR2
  clear hA0 hval0
  simp only [List.append_nil] at hW'
  refine (X4s l1 _ sc1 (Nat.le_trans hcap1 hcm1) l2 _ sc2 (Nat.le_trans hcap2 hcm2) s0.data.toList  W W (im0 W) hK hR1 hR2 [] (sat0 W)).mono fun e W' he => ?_
  obtain ⟨_, rfl, rfl, J, hJ, hS⟩ := he
  exact ⟨_, rfl, Xe0 (pv := []) hW' (hS.below hJ) (fun _ _ _ => (trodAll_cons_mk (shut_bool Tryz.underlying4 _) trodAll_mk0)) ((trodAll_cons_mk (shut_string Tryz.underlying9 w0) (trodAll_cons_mk (Go.RowKit.Below.trod laidOut (by kernel_rfl) (of_decide_eq_true (by kernel_rfl)) k1 (hS.below hJ) (fun x hx => by simpa using hW'.lt x (by simp [hx]))) (trodAll_cons_mk (Go.RowKit.Below.trod laidOut (by kernel_rfl) (of_decide_eq_true (by kernel_rfl)) k2 (hS.below hJ) (fun x hx => by simpa using hW'.lt x (by simp [hx]))) trodAll_mk0)))) rfl (by simp)⟩
theorem jand {a b : Bool} (h : a = true) (k : b = true) : (a && b) = true := by rw [h, k]; rfl
theorem j0 : (Rows.scriptTextsRow.wf (OpenSpec.ofChange Rows.scriptTextsSpec)) = true := by kernel_rfl
theorem j1 : (laidOutB Tryz.prog) = true := by kernel_rfl
theorem j2 : (mapsRowed Tryz.prog) = true := by kernel_rfl
theorem j3 : (Tryz.f3.params.all (Tryz.prog.readableRec ·)) = true := by kernel_rfl
theorem j4 : (namedTie Tryz.prog Rows.scriptTextsRow.named Rows.scriptTextsSpec.vars) = true := by kernel_rfl
theorem j5 : ((Rows.scriptTextsRow.stops == [])) = true := by kernel_rfl
theorem j6 : ((Tryz.prog.stops == [])) = true := by kernel_rfl
theorem j7 : ((Rows.scriptTextsRow.knobs == [])) = true := by kernel_rfl
theorem j8 : ((Tryz.prog.stopKnobs == [])) = true := by kernel_rfl
theorem j9 : ((Rows.scriptTextsRow.inPlace == Tryz.prog.inPlace 3)) = true := by kernel_rfl
theorem j10 : ((Rows.scriptTextsRow.unfollowed == Tryz.prog.unfollowed 3)) = true := by kernel_rfl
theorem j11 : ((Rows.scriptTextsRow.recurses == Tryz.prog.recurses 3)) = true := by kernel_rfl
theorem j12 : ((Rows.scriptTextsRow.named == Tryz.prog.varsNamed 3)) = true := by kernel_rfl
theorem j13 : ((Rows.scriptTextsRow.maps == (Tryz.f3.params.toList ++ Rows.scriptTextsSpec.plain.varTypes Tryz.prog).any (Tryz.prog.mapsRec ·))) = true := by kernel_rfl
theorem j14 : ((Rows.scriptTextsRow.ifaces == (Tryz.f3.params.toList ++ Rows.scriptTextsSpec.plain.varTypes Tryz.prog).any (Tryz.prog.ifacesRec ·))) = true := by kernel_rfl
theorem j15 : ((Rows.scriptTextsRow.mapsOut == Tryz.prog.mapsAmong Tryz.f3.resultTypes.toList)) = true := by kernel_rfl
theorem j16 : ((Rows.scriptTextsRow.loops == (Tryz.f3.params.toList ++ Rows.scriptTextsSpec.plain.varTypes Tryz.prog).any (Tryz.prog.loopsFrom ·))) = true := by kernel_rfl
theorem j17 : ((Rows.scriptTextsRow.wideKeys == (Tryz.f3.params.toList ++ Rows.scriptTextsSpec.plain.varTypes Tryz.prog ++ Tryz.f3.resultTypes.toList).any (Tryz.prog.wideKeysFrom ·))) = true := by kernel_rfl
theorem j18 : (Rows.scriptTextsSpec.vars.all (Tryz.prog.varReadable ·)) = true := by kernel_rfl
theorem j19 : (Tryz.f3.resultTypes.all (fun t => Tryz.prog.readableRec t && decide (t < Tryz.prog.types.size))) = true := by kernel_rfl
theorem j20 : ((Rows.scriptTextsRow.ifacesOut == Tryz.f3.resultTypes.toList.any (Tryz.prog.ifacesRec ·))) = true := by kernel_rfl
theorem j21 : ((Rows.scriptTextsRow.loopsOut == Tryz.f3.resultTypes.toList.any (Tryz.prog.loopsFrom ·))) = true := by kernel_rfl
theorem j22 : ((Rows.scriptTextsRow.plainKeys == Tryz.prog.plainKeys)) = true := by kernel_rfl
theorem j23 : (Rows.scriptTextsRow.shortTexts.isNone) = true := by kernel_rfl
theorem j24 : (Tryz.prog.stopsHeard) = true := by kernel_rfl
theorem j25 : (Tryz.prog.mayEnter) = true := by kernel_rfl
theorem j26 : ((Rows.scriptTextsRow.lifted == Tryz.prog.liftsFinal)) = true := by kernel_rfl
theorem j27 : ((Tryz.prog.make == some Rows.scriptTextsRow.make)) = true := by kernel_rfl
theorem j28 : ((Rows.scriptTextsRow.kinds == (if Rows.scriptTextsRow.domain.isEmpty then [] else Tryz.f3.params.toList.map fun t => match Tryz.prog.underlying t with | some (.int k) => some k | _ => none))) = true := by kernel_rfl
theorem j29 : ((Rows.scriptTextsRow.pinned == Rows.scriptTextsRow.pinnedBy)) = true := by kernel_rfl
theorem j30 : ((Rows.scriptTextsRow.veiled == (Tryz.f3.params.toList ++ Rows.scriptTextsSpec.plain.varTypes Tryz.prog ++ Tryz.f3.resultTypes.toList).any (Tryz.prog.veiledRec ·))) = true := by kernel_rfl
theorem j31 : (Rows.scriptTextsRow.veiledFits Tryz.prog Tryz.f3.params.toList (Tryz.f3.params.toList ++ Rows.scriptTextsSpec.plain.varTypes Tryz.prog ++ Tryz.f3.resultTypes.toList)) = true := by kernel_rfl
set_option maxRecDepth 100000 in
theorem facts : joinedFacts Tryz.prog 3 Tryz.f3 Rows.scriptTextsSpec Rows.scriptTextsRow = true := by
  unfold joinedFacts
  exact (jand (jand (jand (jand (jand (jand (jand (jand (jand (jand (jand (jand (jand (jand (jand (jand (jand (jand (jand (jand (jand (jand (jand (jand (jand (jand (jand (jand (jand (jand (jand j0 j1) j2) j3) j4) j5) j6) j7) j8) j9) j10) j11) j12) j13) j14) j15) j16) j17) j18) j19) j20) j21) j22) j23) j24) j25) j26) j27) j28) j29) j30) j31)
theorem over : Rows.scriptTextsRow.holds Tryz.pinned (OpenSpec.ofChange Rows.scriptTextsSpec) :=
  OpenClaim.holds_of_wide 3 Tryz.f3 rfl rfl rfl rfl rfl rfl rfl ⟨rfl, rfl, rfl, rfl, rfl⟩ rfl rfl rfl rfl rfl (by kernel_rfl) Tryz.func3 facts
    (of_decide_eq_true (by kernel_rfl)) (by unfold Func.isWrapper; first | (rw [if_pos (by decide +kernel)]; kernel_rfl) | (rw [if_neg (by decide +kernel)]; exact ⟨rfl, rfl⟩))
    (fun os started H enc _ => lifted os started H enc)
end Go.Proofs.YtokmddjcdfailaaGreatDoor.scriptTexts
namespace Go.Proofs.YtokmddjcdfailaaGreatDoor
theorem scriptTexts : Rows.ScriptTextsCardSaid :=
  Claim7.holds_tied_plain_at .later [] [.data, .data, .data, .data, .data, .data, .widerDeep, .widerDeep, .pinned] true (true, "f64ef4ee3988dfbb6a58a262cf8a9f7a77500d1e24b6f7c019b9454fddc80f9f") false scriptTexts.over (fun _ h => by cases h) (by kernel_rfl) (fun _ h => by cases h) scriptTexts_row_tie rfl ⟨rfl, rfl⟩ (by kernel_rfl) rfl
    (fun f fn hf hfn => by
      obtain rfl : f = 3 := Option.some.inj ((show Tryz.prog.funcNamed "matricula/matriculalaw26.ScriptTexts" = some 3 by kernel_rfl).symm.trans hf) |>.symm
      obtain rfl : fn = Tryz.f3 := (Option.some.inj (Tryz.func3.symm.trans hfn)).symm
      exact ⟨by kernel_rfl, fun j t ht => by
        rw [Tryz.params3] at ht
        have hm : t ∈ [9, 22, 22] := by simpa using Array.mem_of_getElem? ht
        have hall : ([9, 22, 22].all fun u => !Tryz.prog.wantsStandIn u) = true := by kernel_rfl
        exact (show Tryz.prog.wantsStandIn t = false by simpa using List.all_eq_true.1 hall t hm)⟩)
    (Xid _ rfl)
end Go.Proofs.YtokmddjcdfailaaGreatDoor
