/- 'ProxyTargets': what the card says. -/
import Derived.Test.YtfibbpgikjggfaaGreatDoorM2TG
import Derived.Test.YtfibbpgikjggfaaGreatDoorRows
import Derived.Test.YtfibbpgikjggfaaGreatDoorCards
import Derived.Test.YtfibbpgikjggfaaGreatDoorTie
import Derived.WalkKit
import Derived.ProofKit
import Derived.OpenShut
import Derived.KernelRfl
import Derived.LaidOnce
import Derived.SevenTiedAt
namespace Go.Proofs.YtfibbpgikjggfaaGreatDoor.proxyTargets
open Go.ChangeShapes Go.WideShapes Go.ChangeAt Go.RowKit Gk
open Go.ChangeMaps (open_string shut_string)
set_option linter.unusedVariables false
theorem knob : ownKnob Tryz.prog.godebug = none := by kernel_rfl
theorem laidOut : laidOutB Tryz.prog = true := by kernel_rfl
theorem plainLaid : (Rows.proxyTargetsRow.laid.all fun x => x.2.handleName?.isNone) = true := by kernel_rfl
theorem wit1 (os : Os) : ((World.laidAll Tryz.prog os Rows.proxyTargetsRow.laid).forCall (fun _ _ => 0) ⟨#[], #[.agg #[.string ⟨#[]⟩, .string ⟨#[]⟩, .string ⟨#[]⟩]], []⟩).Shaped Tryz.prog := World.shaped_of_ZipB (by kernel_rfl) (by kernel_rfl)
theorem wit2 (os : Os) : laidMetH Tryz.prog Rows.proxyTargetsRow.laid ((World.laidAll Tryz.prog os Rows.proxyTargetsRow.laid).forCall (fun _ _ => 0) ⟨#[], #[.agg #[.string ⟨#[]⟩, .string ⟨#[]⟩, .string ⟨#[]⟩]], []⟩).memory := by
  rw [MakeChecks.laidMetH_plain _ _ _ plainLaid]
  exact laidMet_laidAll _ (by kernel_rfl) (by kernel_rfl)
theorem wit3 (os : Os) : Input.okWideB Tryz.checked.prog ((World.laidAll Tryz.prog os Rows.proxyTargetsRow.laid).forCall (fun _ _ => 0) ⟨#[], #[.agg #[.string ⟨#[]⟩, .string ⟨#[]⟩, .string ⟨#[]⟩]], []⟩) 7 ⟨#[], #[.agg #[.string ⟨#[]⟩, .string ⟨#[]⟩, .string ⟨#[]⟩]], []⟩ = true := by kernel_rfl
theorem wit4 (os : Os) (H : Type) (enc : TypeId × Value → H) : Rows.proxyTargetsSpec.preB enc Tryz.checked.prog Tryz.f7 Rows.proxyTargetsRow.domain false ((World.laidAll Tryz.prog os Rows.proxyTargetsRow.laid).forCall (fun _ _ => 0) ⟨#[], #[.agg #[.string ⟨#[]⟩, .string ⟨#[]⟩, .string ⟨#[]⟩]], []⟩).memory #[.agg #[.string ⟨#[]⟩, .string ⟨#[]⟩, .string ⟨#[]⟩]] 8 = true := by kernel_rfl
theorem wit5 (os : Os) (H : Type) (enc : TypeId × Value → H) : Rows.proxyTargetsSpec.sizedB enc Tryz.checked.prog Tryz.f7 false ((World.laidAll Tryz.prog os Rows.proxyTargetsRow.laid).forCall (fun _ _ => 0) ⟨#[], #[.agg #[.string ⟨#[]⟩, .string ⟨#[]⟩, .string ⟨#[]⟩]], []⟩).memory #[.agg #[.string ⟨#[]⟩, .string ⟨#[]⟩, .string ⟨#[]⟩]] 8 = true := by kernel_rfl
theorem wit (os : Os) (H : Type) (enc : TypeId × Value → H) : WitT enc {} Tryz.checked os 7 Tryz.f7 Rows.proxyTargetsSpec Rows.proxyTargetsRow.domain false (fun w _ => laidMetH Tryz.prog Rows.proxyTargetsRow.laid w) :=
  ChangeSpec.witness_shaped (X := (fun w _ => laidMetH Tryz.prog Rows.proxyTargetsRow.laid w)) false (World.laidAll Tryz.prog os Rows.proxyTargetsRow.laid) #[.agg #[.string ⟨#[]⟩, .string ⟨#[]⟩, .string ⟨#[]⟩]] 8 (World.laidAll_os _ _ _) (wit1 os) (wit3 os) (wit4 os H enc) (wit5 os H enc) (wit2 os)
set_option maxRecDepth 100000 in
theorem lifted (os : Os) (started : os.Started) (H : Type) (enc : TypeId × Value → H) :
    ReturnsInHanded {} Tryz.checked os 7 .any (fun w args => (Rows.proxyTargetsSpec.pre enc Tryz.prog Tryz.f7 Rows.proxyTargetsRow.domain false w args ∧ laidMetH Tryz.prog Rows.proxyTargetsRow.laid w) ∧ sizedMet enc Tryz.prog Tryz.f7 (OpenSpec.ofChange Rows.proxyTargetsSpec) false w args) (Rows.proxyTargetsSpec.post enc Tryz.prog Tryz.f7 false true false false) := by
  refine X5f (C := Tryz.checked) (X := (fun w _ => laidMetH Tryz.prog Rows.proxyTargetsRow.laid w)) (fun _ _ _ hh h => h.of_heap hh) knob started (by kernel_rfl) Tryz.func7 (wit os H enc) ?_
  intro W base args ds gs before hval0 hW hL0 hsh
  have hL := hL0
  rw [MakeChecks.laidMetH_plain _ _ _ plainLaid] at hL
  have hK := Xls (Lib.laidMet.reads hL (.tail _ (.tail _ (.tail _ (.tail _ (.head _)))))) (Lib.laidMet.reads hL (.tail _ (.tail _ (.head _)))) (Lib.laidMet.reads hL (.tail _ (.tail _ (.tail _ (.tail _ (.tail _ (.head _))))))) hsh
  have hval : ∀ (j : Nat) t v, Tryz.f7.params[j]? = some t → args[j]? = some v → Value.okWide Tryz.prog W .any base t v := hval0
  have hW' := hW
  obtain ⟨p, q, hA0, hV, rfl, hfz, hnd⟩ := hW
  have hA : DataW.TrodAll enc Tryz.prog W 0 (fun _ => true) true Tryz.f7.params.toList args.toList ds p := hA0
  rw [Tryz.params7] at hA hval
  obtain ⟨v0, vs0, d0, ds0, p0, q0, hargs, rfl, rfl, h0, r0⟩ := trodAll_cons hA
  obtain ⟨rfl, rfl, rfl⟩ := trodAll_nil r0
  obtain rfl : args = #[v0] := by cases args; simp_all
  obtain ⟨rfl, rfl⟩ := trodVars_none hV
  have k0 := h0
  obtain ⟨f0, hf0⟩ := h0
  obtain ⟨ar0, rfl, hsz0⟩ := Go.WideShapes.okWide_struct Tryz.underlying48 (hval 0 48 v0 rfl rfl)
  obtain ⟨q0, e0, hq0⟩ := Xjn hf0
  have ee0 : ar0 = (Xap q0).toArray := Array.ext' (by simpa [Value.cells] using e0)
  subst ee0
  clear hA0 hval0
  simp only [List.append_nil] at hW'
  refine (X6x q0 hq0   W W (im0 W) hK.1 hK.2  [] (sat0 W)).mono fun e W' he => ?_
  obtain ⟨_, rfl, rfl, J, hJ, hS⟩ := he
  exact ⟨_, rfl, Xhh (pv := []) hW' (hS.below hJ) (fun _ _ _ => (trodAll_cons_mk (shut_bool Tryz.underlying4 _) trodAll_mk0)) ((trodAll_cons_mk (Go.RowKit.Below.trod laidOut (by kernel_rfl) (of_decide_eq_true (by kernel_rfl)) k0 (hS.below hJ) (fun x hx => by simpa using hW'.lt x (by simp [hx]))) trodAll_mk0)) rfl (by simp)⟩
theorem jand {a b : Bool} (h : a = true) (k : b = true) : (a && b) = true := by rw [h, k]; rfl
theorem j0 : (Rows.proxyTargetsRow.wf (OpenSpec.ofChange Rows.proxyTargetsSpec)) = true := by kernel_rfl
theorem j1 : (laidOutB Tryz.prog) = true := by kernel_rfl
theorem j2 : (mapsRowed Tryz.prog) = true := by kernel_rfl
theorem j3 : (Tryz.f7.params.all (Tryz.prog.readableRec ·)) = true := by kernel_rfl
theorem j4 : (namedTie Tryz.prog Rows.proxyTargetsRow.named Rows.proxyTargetsSpec.vars) = true := by kernel_rfl
theorem j5 : ((Rows.proxyTargetsRow.stops == [])) = true := by kernel_rfl
theorem j6 : ((Tryz.prog.stops == [])) = true := by kernel_rfl
theorem j7 : ((Rows.proxyTargetsRow.knobs == [])) = true := by kernel_rfl
theorem j8 : ((Tryz.prog.stopKnobs == [])) = true := by kernel_rfl
theorem j9 : ((Rows.proxyTargetsRow.inPlace == Tryz.prog.inPlace 7)) = true := by kernel_rfl
theorem j10 : ((Rows.proxyTargetsRow.unfollowed == Tryz.prog.unfollowed 7)) = true := by kernel_rfl
theorem j11 : ((Rows.proxyTargetsRow.recurses == Tryz.prog.recurses 7)) = true := by kernel_rfl
theorem j12 : ((Rows.proxyTargetsRow.named == Tryz.prog.varsNamed 7)) = true := by kernel_rfl
theorem j13 : ((Rows.proxyTargetsRow.maps == (Tryz.f7.params.toList ++ Rows.proxyTargetsSpec.plain.varTypes Tryz.prog).any (Tryz.prog.mapsRec ·))) = true := by kernel_rfl
theorem j14 : ((Rows.proxyTargetsRow.ifaces == (Tryz.f7.params.toList ++ Rows.proxyTargetsSpec.plain.varTypes Tryz.prog).any (Tryz.prog.ifacesRec ·))) = true := by kernel_rfl
theorem j15 : ((Rows.proxyTargetsRow.mapsOut == Tryz.prog.mapsAmong Tryz.f7.resultTypes.toList)) = true := by kernel_rfl
theorem j16 : ((Rows.proxyTargetsRow.loops == (Tryz.f7.params.toList ++ Rows.proxyTargetsSpec.plain.varTypes Tryz.prog).any (Tryz.prog.loopsFrom ·))) = true := by kernel_rfl
theorem j17 : ((Rows.proxyTargetsRow.wideKeys == (Tryz.f7.params.toList ++ Rows.proxyTargetsSpec.plain.varTypes Tryz.prog ++ Tryz.f7.resultTypes.toList).any (Tryz.prog.wideKeysFrom ·))) = true := by kernel_rfl
theorem j18 : (Rows.proxyTargetsSpec.vars.all (Tryz.prog.varReadable ·)) = true := by kernel_rfl
theorem j19 : (Tryz.f7.resultTypes.all (fun t => Tryz.prog.readableRec t && decide (t < Tryz.prog.types.size))) = true := by kernel_rfl
theorem j20 : ((Rows.proxyTargetsRow.ifacesOut == Tryz.f7.resultTypes.toList.any (Tryz.prog.ifacesRec ·))) = true := by kernel_rfl
theorem j21 : ((Rows.proxyTargetsRow.loopsOut == Tryz.f7.resultTypes.toList.any (Tryz.prog.loopsFrom ·))) = true := by kernel_rfl
theorem j22 : ((Rows.proxyTargetsRow.plainKeys == Tryz.prog.plainKeys)) = true := by kernel_rfl
theorem j23 : (Rows.proxyTargetsRow.shortTexts.isNone) = true := by kernel_rfl
theorem j24 : (Tryz.prog.stopsHeard) = true := by kernel_rfl
theorem j25 : (Tryz.prog.mayEnter) = true := by kernel_rfl
theorem j26 : ((Rows.proxyTargetsRow.lifted == Tryz.prog.liftsFinal)) = true := by kernel_rfl
theorem j27 : ((Tryz.prog.make == some Rows.proxyTargetsRow.make)) = true := by kernel_rfl
theorem j28 : ((Rows.proxyTargetsRow.kinds == (if Rows.proxyTargetsRow.domain.isEmpty then [] else Tryz.f7.params.toList.map fun t => match Tryz.prog.underlying t with | some (.int k) => some k | _ => none))) = true := by kernel_rfl
theorem j29 : ((Rows.proxyTargetsRow.pinned == Rows.proxyTargetsRow.pinnedBy)) = true := by kernel_rfl
theorem j30 : ((Rows.proxyTargetsRow.veiled == (Tryz.f7.params.toList ++ Rows.proxyTargetsSpec.plain.varTypes Tryz.prog ++ Tryz.f7.resultTypes.toList).any (Tryz.prog.veiledRec ·))) = true := by kernel_rfl
theorem j31 : (Rows.proxyTargetsRow.veiledFits Tryz.prog Tryz.f7.params.toList (Tryz.f7.params.toList ++ Rows.proxyTargetsSpec.plain.varTypes Tryz.prog ++ Tryz.f7.resultTypes.toList)) = true := by kernel_rfl
set_option maxRecDepth 100000 in
theorem facts : joinedFacts Tryz.prog 7 Tryz.f7 Rows.proxyTargetsSpec Rows.proxyTargetsRow = true := by
  unfold joinedFacts
  exact (jand (jand (jand (jand (jand (jand (jand (jand (jand (jand (jand (jand (jand (jand (jand (jand (jand (jand (jand (jand (jand (jand (jand (jand (jand (jand (jand (jand (jand (jand (jand j0 j1) j2) j3) j4) j5) j6) j7) j8) j9) j10) j11) j12) j13) j14) j15) j16) j17) j18) j19) j20) j21) j22) j23) j24) j25) j26) j27) j28) j29) j30) j31)
theorem over : Rows.proxyTargetsRow.holds Tryz.pinned (OpenSpec.ofChange Rows.proxyTargetsSpec) :=
  OpenClaim.holds_of_wide 7 Tryz.f7 rfl rfl rfl rfl rfl rfl rfl ⟨rfl, rfl, rfl, rfl, rfl⟩ rfl rfl rfl rfl rfl (by kernel_rfl) Tryz.func7 facts
    (of_decide_eq_true (by kernel_rfl)) (by unfold Func.isWrapper; first | (rw [if_pos (by decide +kernel)]; kernel_rfl) | (rw [if_neg (by decide +kernel)]; exact ⟨rfl, rfl⟩))
    (fun os started H enc _ => lifted os started H enc)
end Go.Proofs.YtfibbpgikjggfaaGreatDoor.proxyTargets
namespace Go.Proofs.YtfibbpgikjggfaaGreatDoor
theorem proxyTargets : Rows.ProxyTargetsCardSaid :=
  Claim7.holds_tied_plain_at .later [] [.data, .data, .data, .data, .data, .widerDeep, .pinned] true (true, "f50c528b2740b9d2b96812d02f405c984035f8e97c2f3fb47ee885acb42fd1e3") false proxyTargets.over (fun _ h => by cases h) (by kernel_rfl) (fun _ h => by cases h) proxyTargets_row_tie rfl ⟨rfl, rfl⟩ (by kernel_rfl) rfl
    (fun f fn hf hfn => by
      obtain rfl : f = 7 := Option.some.inj ((show Tryz.prog.funcNamed "matricula/matriculalaw22.ProxyTargets" = some 7 by kernel_rfl).symm.trans hf) |>.symm
      obtain rfl : fn = Tryz.f7 := (Option.some.inj (Tryz.func7.symm.trans hfn)).symm
      exact ⟨by kernel_rfl, fun j t ht => by
        rw [Tryz.params7] at ht
        have hm : t ∈ [48] := by simpa using Array.mem_of_getElem? ht
        have hall : ([48].all fun u => !Tryz.prog.wantsStandIn u) = true := by kernel_rfl
        exact (show Tryz.prog.wantsStandIn t = false by simpa using List.all_eq_true.1 hall t hm)⟩)
    (by kernel_rfl)
end Go.Proofs.YtfibbpgikjggfaaGreatDoor
