/- 'GrantFails': what the card says. -/
import Derived.Test.YtadhiihnnkcagaaGreatDoorM20H
import Derived.Test.YtadhiihnnkcagaaGreatDoorRows
import Derived.Test.YtadhiihnnkcagaaGreatDoorCards
import Derived.Test.YtadhiihnnkcagaaGreatDoorTie
import Derived.WalkKit
import Derived.ProofKit
import Derived.OpenShut
import Derived.KernelRfl
import Derived.LaidOnce
import Derived.SevenTiedAt
namespace Go.Proofs.YtadhiihnnkcagaaGreatDoor.grantFails
open Go.ChangeShapes Go.WideShapes Go.ChangeAt Go.RowKit Gk
open Go.ChangeMaps (open_string shut_string)
set_option linter.unusedVariables false
theorem knob : ownKnob Tryz.prog.godebug = none := by kernel_rfl
theorem laidOut : laidOutB Tryz.prog = true := by kernel_rfl
theorem plainLaid : (Rows.grantFailsRow.laid.all fun x => x.2.handleName?.isNone) = true := by kernel_rfl
theorem wit1 (os : Os) : ((World.laidAll Tryz.prog os Rows.grantFailsRow.laid).forCall (fun _ _ => 0) ⟨#[], #[.agg #[.slice none 0 0, .slice none 0 0, .int .i64 0, .int .i64 0, .int .i64 0, .int .i64 0, .int .i64 0, .int .i64 0, .int .i64 0, .int .i64 0, .int .i64 0, .int .i64 0, .int .i64 0, .int .i64 0, .int .i64 0, .int .i64 0, .int .i64 0, .int .i64 0, .int .i64 0, .int .i64 0, .int .i64 0, .int .i64 0, .int .i64 0, .int .i64 0, .float .f64 0, .float .f64 0, .float .f64 0, .int .i64 0], .slice none 0 0, .agg #[.int .i64 0, .int .i64 0, .slice none 0 0, .int .i64 0, .string ⟨#[]⟩, .string ⟨#[]⟩, .bool false, .int .i64 0, .string ⟨#[]⟩, .string ⟨#[]⟩, .string ⟨#[]⟩, .string ⟨#[]⟩, .string ⟨#[]⟩, .int .i64 0, .int .i64 0, .int .i64 0, .bool false, .string ⟨#[]⟩, .string ⟨#[]⟩, .bool false, .bool false, .bool false, .bool false]], []⟩).Shaped Tryz.prog := World.shaped_of_ZipB (by kernel_rfl) (by kernel_rfl)
theorem wit2 (os : Os) : laidMetH Tryz.prog Rows.grantFailsRow.laid ((World.laidAll Tryz.prog os Rows.grantFailsRow.laid).forCall (fun _ _ => 0) ⟨#[], #[.agg #[.slice none 0 0, .slice none 0 0, .int .i64 0, .int .i64 0, .int .i64 0, .int .i64 0, .int .i64 0, .int .i64 0, .int .i64 0, .int .i64 0, .int .i64 0, .int .i64 0, .int .i64 0, .int .i64 0, .int .i64 0, .int .i64 0, .int .i64 0, .int .i64 0, .int .i64 0, .int .i64 0, .int .i64 0, .int .i64 0, .int .i64 0, .int .i64 0, .float .f64 0, .float .f64 0, .float .f64 0, .int .i64 0], .slice none 0 0, .agg #[.int .i64 0, .int .i64 0, .slice none 0 0, .int .i64 0, .string ⟨#[]⟩, .string ⟨#[]⟩, .bool false, .int .i64 0, .string ⟨#[]⟩, .string ⟨#[]⟩, .string ⟨#[]⟩, .string ⟨#[]⟩, .string ⟨#[]⟩, .int .i64 0, .int .i64 0, .int .i64 0, .bool false, .string ⟨#[]⟩, .string ⟨#[]⟩, .bool false, .bool false, .bool false, .bool false]], []⟩).memory := by
  rw [MakeChecks.laidMetH_plain _ _ _ plainLaid]
  exact laidMet_laidAll _ (by kernel_rfl) (by kernel_rfl)
theorem wit3 (os : Os) : Input.okWideB Tryz.checked.prog ((World.laidAll Tryz.prog os Rows.grantFailsRow.laid).forCall (fun _ _ => 0) ⟨#[], #[.agg #[.slice none 0 0, .slice none 0 0, .int .i64 0, .int .i64 0, .int .i64 0, .int .i64 0, .int .i64 0, .int .i64 0, .int .i64 0, .int .i64 0, .int .i64 0, .int .i64 0, .int .i64 0, .int .i64 0, .int .i64 0, .int .i64 0, .int .i64 0, .int .i64 0, .int .i64 0, .int .i64 0, .int .i64 0, .int .i64 0, .int .i64 0, .int .i64 0, .float .f64 0, .float .f64 0, .float .f64 0, .int .i64 0], .slice none 0 0, .agg #[.int .i64 0, .int .i64 0, .slice none 0 0, .int .i64 0, .string ⟨#[]⟩, .string ⟨#[]⟩, .bool false, .int .i64 0, .string ⟨#[]⟩, .string ⟨#[]⟩, .string ⟨#[]⟩, .string ⟨#[]⟩, .string ⟨#[]⟩, .int .i64 0, .int .i64 0, .int .i64 0, .bool false, .string ⟨#[]⟩, .string ⟨#[]⟩, .bool false, .bool false, .bool false, .bool false]], []⟩) 12 ⟨#[], #[.agg #[.slice none 0 0, .slice none 0 0, .int .i64 0, .int .i64 0, .int .i64 0, .int .i64 0, .int .i64 0, .int .i64 0, .int .i64 0, .int .i64 0, .int .i64 0, .int .i64 0, .int .i64 0, .int .i64 0, .int .i64 0, .int .i64 0, .int .i64 0, .int .i64 0, .int .i64 0, .int .i64 0, .int .i64 0, .int .i64 0, .int .i64 0, .int .i64 0, .float .f64 0, .float .f64 0, .float .f64 0, .int .i64 0], .slice none 0 0, .agg #[.int .i64 0, .int .i64 0, .slice none 0 0, .int .i64 0, .string ⟨#[]⟩, .string ⟨#[]⟩, .bool false, .int .i64 0, .string ⟨#[]⟩, .string ⟨#[]⟩, .string ⟨#[]⟩, .string ⟨#[]⟩, .string ⟨#[]⟩, .int .i64 0, .int .i64 0, .int .i64 0, .bool false, .string ⟨#[]⟩, .string ⟨#[]⟩, .bool false, .bool false, .bool false, .bool false]], []⟩ = true := by kernel_rfl
theorem wit4 (os : Os) (H : Type) (enc : TypeId × Value → H) : Rows.grantFailsSpec.preB enc Tryz.checked.prog Tryz.f12 Rows.grantFailsRow.domain false ((World.laidAll Tryz.prog os Rows.grantFailsRow.laid).forCall (fun _ _ => 0) ⟨#[], #[.agg #[.slice none 0 0, .slice none 0 0, .int .i64 0, .int .i64 0, .int .i64 0, .int .i64 0, .int .i64 0, .int .i64 0, .int .i64 0, .int .i64 0, .int .i64 0, .int .i64 0, .int .i64 0, .int .i64 0, .int .i64 0, .int .i64 0, .int .i64 0, .int .i64 0, .int .i64 0, .int .i64 0, .int .i64 0, .int .i64 0, .int .i64 0, .int .i64 0, .float .f64 0, .float .f64 0, .float .f64 0, .int .i64 0], .slice none 0 0, .agg #[.int .i64 0, .int .i64 0, .slice none 0 0, .int .i64 0, .string ⟨#[]⟩, .string ⟨#[]⟩, .bool false, .int .i64 0, .string ⟨#[]⟩, .string ⟨#[]⟩, .string ⟨#[]⟩, .string ⟨#[]⟩, .string ⟨#[]⟩, .int .i64 0, .int .i64 0, .int .i64 0, .bool false, .string ⟨#[]⟩, .string ⟨#[]⟩, .bool false, .bool false, .bool false, .bool false]], []⟩).memory #[.agg #[.slice none 0 0, .slice none 0 0, .int .i64 0, .int .i64 0, .int .i64 0, .int .i64 0, .int .i64 0, .int .i64 0, .int .i64 0, .int .i64 0, .int .i64 0, .int .i64 0, .int .i64 0, .int .i64 0, .int .i64 0, .int .i64 0, .int .i64 0, .int .i64 0, .int .i64 0, .int .i64 0, .int .i64 0, .int .i64 0, .int .i64 0, .int .i64 0, .float .f64 0, .float .f64 0, .float .f64 0, .int .i64 0], .slice none 0 0, .agg #[.int .i64 0, .int .i64 0, .slice none 0 0, .int .i64 0, .string ⟨#[]⟩, .string ⟨#[]⟩, .bool false, .int .i64 0, .string ⟨#[]⟩, .string ⟨#[]⟩, .string ⟨#[]⟩, .string ⟨#[]⟩, .string ⟨#[]⟩, .int .i64 0, .int .i64 0, .int .i64 0, .bool false, .string ⟨#[]⟩, .string ⟨#[]⟩, .bool false, .bool false, .bool false, .bool false]] 8 = true := by kernel_rfl
theorem wit5 (os : Os) (H : Type) (enc : TypeId × Value → H) : Rows.grantFailsSpec.sizedB enc Tryz.checked.prog Tryz.f12 false ((World.laidAll Tryz.prog os Rows.grantFailsRow.laid).forCall (fun _ _ => 0) ⟨#[], #[.agg #[.slice none 0 0, .slice none 0 0, .int .i64 0, .int .i64 0, .int .i64 0, .int .i64 0, .int .i64 0, .int .i64 0, .int .i64 0, .int .i64 0, .int .i64 0, .int .i64 0, .int .i64 0, .int .i64 0, .int .i64 0, .int .i64 0, .int .i64 0, .int .i64 0, .int .i64 0, .int .i64 0, .int .i64 0, .int .i64 0, .int .i64 0, .int .i64 0, .float .f64 0, .float .f64 0, .float .f64 0, .int .i64 0], .slice none 0 0, .agg #[.int .i64 0, .int .i64 0, .slice none 0 0, .int .i64 0, .string ⟨#[]⟩, .string ⟨#[]⟩, .bool false, .int .i64 0, .string ⟨#[]⟩, .string ⟨#[]⟩, .string ⟨#[]⟩, .string ⟨#[]⟩, .string ⟨#[]⟩, .int .i64 0, .int .i64 0, .int .i64 0, .bool false, .string ⟨#[]⟩, .string ⟨#[]⟩, .bool false, .bool false, .bool false, .bool false]], []⟩).memory #[.agg #[.slice none 0 0, .slice none 0 0, .int .i64 0, .int .i64 0, .int .i64 0, .int .i64 0, .int .i64 0, .int .i64 0, .int .i64 0, .int .i64 0, .int .i64 0, .int .i64 0, .int .i64 0, .int .i64 0, .int .i64 0, .int .i64 0, .int .i64 0, .int .i64 0, .int .i64 0, .int .i64 0, .int .i64 0, .int .i64 0, .int .i64 0, .int .i64 0, .float .f64 0, .float .f64 0, .float .f64 0, .int .i64 0], .slice none 0 0, .agg #[.int .i64 0, .int .i64 0, .slice none 0 0, .int .i64 0, .string ⟨#[]⟩, .string ⟨#[]⟩, .bool false, .int .i64 0, .string ⟨#[]⟩, .string ⟨#[]⟩, .string ⟨#[]⟩, .string ⟨#[]⟩, .string ⟨#[]⟩, .int .i64 0, .int .i64 0, .int .i64 0, .bool false, .string ⟨#[]⟩, .string ⟨#[]⟩, .bool false, .bool false, .bool false, .bool false]] 8 = true := by kernel_rfl
theorem wit (os : Os) (H : Type) (enc : TypeId × Value → H) : WitT enc {} Tryz.checked os 12 Tryz.f12 Rows.grantFailsSpec Rows.grantFailsRow.domain false (fun w _ => laidMetH Tryz.prog Rows.grantFailsRow.laid w) :=
  ChangeSpec.witness_shaped (X := (fun w _ => laidMetH Tryz.prog Rows.grantFailsRow.laid w)) false (World.laidAll Tryz.prog os Rows.grantFailsRow.laid) #[.agg #[.slice none 0 0, .slice none 0 0, .int .i64 0, .int .i64 0, .int .i64 0, .int .i64 0, .int .i64 0, .int .i64 0, .int .i64 0, .int .i64 0, .int .i64 0, .int .i64 0, .int .i64 0, .int .i64 0, .int .i64 0, .int .i64 0, .int .i64 0, .int .i64 0, .int .i64 0, .int .i64 0, .int .i64 0, .int .i64 0, .int .i64 0, .int .i64 0, .float .f64 0, .float .f64 0, .float .f64 0, .int .i64 0], .slice none 0 0, .agg #[.int .i64 0, .int .i64 0, .slice none 0 0, .int .i64 0, .string ⟨#[]⟩, .string ⟨#[]⟩, .bool false, .int .i64 0, .string ⟨#[]⟩, .string ⟨#[]⟩, .string ⟨#[]⟩, .string ⟨#[]⟩, .string ⟨#[]⟩, .int .i64 0, .int .i64 0, .int .i64 0, .bool false, .string ⟨#[]⟩, .string ⟨#[]⟩, .bool false, .bool false, .bool false, .bool false]] 8 (World.laidAll_os _ _ _) (wit1 os) (wit3 os) (wit4 os H enc) (wit5 os H enc) (wit2 os)
set_option maxRecDepth 100000 in
theorem lifted (os : Os) (started : os.Started) (H : Type) (enc : TypeId × Value → H) :
    ReturnsInHanded {} Tryz.checked os 12 .any (fun w args => (Rows.grantFailsSpec.pre enc Tryz.prog Tryz.f12 Rows.grantFailsRow.domain false w args ∧ laidMetH Tryz.prog Rows.grantFailsRow.laid w) ∧ sizedMet enc Tryz.prog Tryz.f12 (OpenSpec.ofChange Rows.grantFailsSpec) false w args) (Rows.grantFailsSpec.post enc Tryz.prog Tryz.f12 false true false false) := by
  refine returns_and_shapedW (C := Tryz.checked) (X := (fun w _ => laidMetH Tryz.prog Rows.grantFailsRow.laid w)) (fun _ _ _ hh h => h.of_heap hh) knob started (by kernel_rfl) Tryz.func12 (wit os H enc) ?_
  intro W base args ds gs before hval0 hW hL0 hsh hwt
  have hL := hL0
  rw [MakeChecks.laidMetH_plain _ _ _ plainLaid] at hL
  have hK := known_of (Lib.laidMet.reads hL (.tail _ (.tail _ (.tail _ (.tail _ (.head _)))))) (Lib.laidMet.reads hL (.tail _ (.tail _ (.head _)))) (Lib.laidMet.reads hL (.tail _ (.tail _ (.tail _ (.tail _ (.tail _ (.head _))))))) hsh
  have hval : ∀ (j : Nat) t v, Tryz.f12.params[j]? = some t → args[j]? = some v → Value.okWide Tryz.prog W .any base t v := hval0
  have hW' := hW
  obtain ⟨p, q, hA0, hV, rfl, hfz, hnd⟩ := hW
  have hA : DataW.TrodAll enc Tryz.prog W 0 (fun _ => true) true Tryz.f12.params.toList args.toList ds p := hA0
  rw [Tryz.params12] at hA hval
  obtain ⟨v0, vs0, d0, ds0, p0, q0, hargs, rfl, rfl, h0, r0⟩ := trodAll_cons hA
  obtain ⟨v1, vs1, d1, ds1, p1, q1, rfl, rfl, rfl, h1, r1⟩ := trodAll_cons r0
  obtain ⟨v2, vs2, d2, ds2, p2, q2, rfl, rfl, rfl, h2, r2⟩ := trodAll_cons r1
  obtain ⟨rfl, rfl, rfl⟩ := trodAll_nil r2
  obtain rfl : args = #[v0, v1, v2] := by cases args; simp_all
  obtain ⟨rfl, rfl⟩ := trodVars_none hV
  change (DataW.weightsEach Tryz.prog (34 :: 88 :: 97 :: _) (d0 :: d1 :: d2 :: _)).all _ = true at hwt
  simp only [DataW.weightsEach, List.all_append, Bool.and_eq_true] at hwt
  have k0 := h0
  obtain ⟨f0, hf0⟩ := h0
  obtain ⟨ar0, rfl, hsz0⟩ := Go.WideShapes.okWide_struct Tryz.underlying34 (hval 0 34 v0 rfl rfl)
  obtain ⟨c0, a0, cap0, ua0, ucap0, e0, hC0⟩ := open_cfg hf0
  have ee0 : ar0 = (cfCells c0 a0 cap0 ua0 ucap0).toArray := Array.ext' (by simpa [Value.cells] using e0)
  subst ee0
  have k1 := h1
  obtain ⟨f1, hf1⟩ := h1
  obtain ⟨sa1, sn1, sc1, rfl⟩ := Go.WideShapes.okWide_slice Tryz.underlying88 (hval 1 88 v1 rfl rfl)
  obtain ⟨a1, cap1, l1, hc1, hcap1, hcm1, hO1, hfit1⟩ := open_ops hf1
  simp [Value.cells] at hc1
  obtain ⟨rfl, rfl, rfl⟩ := hc1
  have k2 := h2
  obtain ⟨f2, hf2⟩ := h2
  obtain ⟨ar2, rfl, hsz2⟩ := Go.WideShapes.okWide_struct Tryz.underlying97 (hval 2 97 v2 rfl rfl)
  obtain ⟨o2, ho2, hof2⟩ := open_op hf2
  have hoo2 := ho2
  obtain ⟨da2, dc2, e2, _⟩ := hoo2
  have ee2 : ar2 = (opCells o2 da2 dc2).toArray := Array.ext' (by simpa [Value.cells] using e2)
  subst ee2
  clear hA0 hval0
  simp only [List.append_nil] at hW'
  refine (GrantFails_any c0 a0 cap0 ua0 ucap0 _ sc1 l1 (by have h := slice_weight Tryz.underlying88 hf1 hwt.2.1; rw [show Tryz.prog.bytesOf 97 = 248 from by kernel_rfl] at h; exact h) hfit1 o2 da2 dc2 hof2   W W (im0 W) hK.1 hK.2 hC0 hO1 (by simpa [Value.cells] using ho2) [] (sat0 W)).mono fun e W' he => ?_
  obtain ⟨_, rfl, rfl, J, hJ, hS⟩ := he
  exact ⟨_, rfl, post_law2 (pv := []) hW' (hS.below hJ) (fun _ _ _ => (trodAll_cons_mk (shut_bool Tryz.underlying4 _) trodAll_mk0)) ((trodAll_cons_mk (Go.RowKit.Below.trod laidOut (by kernel_rfl) (of_decide_eq_true (by kernel_rfl)) k0 (hS.below hJ) (fun x hx => by simpa using hW'.lt x (by simp [hx]))) (trodAll_cons_mk (Go.RowKit.Below.trod laidOut (by kernel_rfl) (of_decide_eq_true (by kernel_rfl)) k1 (hS.below hJ) (fun x hx => by simpa using hW'.lt x (by simp [hx]))) (trodAll_cons_mk (Go.RowKit.Below.trod laidOut (by kernel_rfl) (of_decide_eq_true (by kernel_rfl)) k2 (hS.below hJ) (fun x hx => by simpa using hW'.lt x (by simp [hx]))) trodAll_mk0)))) rfl (by simp)⟩
theorem jand {a b : Bool} (h : a = true) (k : b = true) : (a && b) = true := by rw [h, k]; rfl
theorem j0 : (Rows.grantFailsRow.wf (OpenSpec.ofChange Rows.grantFailsSpec)) = true := by kernel_rfl
theorem j1 : (laidOutB Tryz.prog) = true := by kernel_rfl
theorem j2 : (mapsRowed Tryz.prog) = true := by kernel_rfl
theorem j3 : (Tryz.f12.params.all (Tryz.prog.readableRec ·)) = true := by kernel_rfl
theorem j4 : (namedTie Tryz.prog Rows.grantFailsRow.named Rows.grantFailsSpec.vars) = true := by kernel_rfl
theorem j5 : ((Rows.grantFailsRow.stops == [])) = true := by kernel_rfl
theorem j6 : ((Tryz.prog.stops == [])) = true := by kernel_rfl
theorem j7 : ((Rows.grantFailsRow.knobs == [])) = true := by kernel_rfl
theorem j8 : ((Tryz.prog.stopKnobs == [])) = true := by kernel_rfl
theorem j9 : ((Rows.grantFailsRow.inPlace == Tryz.prog.inPlace 12)) = true := by kernel_rfl
theorem j10 : ((Rows.grantFailsRow.unfollowed == Tryz.prog.unfollowed 12)) = true := by kernel_rfl
theorem j11 : ((Rows.grantFailsRow.recurses == Tryz.prog.recurses 12)) = true := by kernel_rfl
theorem j12 : ((Rows.grantFailsRow.named == Tryz.prog.varsNamed 12)) = true := by kernel_rfl
theorem j13 : ((Rows.grantFailsRow.maps == (Tryz.f12.params.toList ++ Rows.grantFailsSpec.plain.varTypes Tryz.prog).any (Tryz.prog.mapsRec ·))) = true := by kernel_rfl
theorem j14 : ((Rows.grantFailsRow.ifaces == (Tryz.f12.params.toList ++ Rows.grantFailsSpec.plain.varTypes Tryz.prog).any (Tryz.prog.ifacesRec ·))) = true := by kernel_rfl
theorem j15 : ((Rows.grantFailsRow.mapsOut == Tryz.prog.mapsAmong Tryz.f12.resultTypes.toList)) = true := by kernel_rfl
theorem j16 : ((Rows.grantFailsRow.loops == (Tryz.f12.params.toList ++ Rows.grantFailsSpec.plain.varTypes Tryz.prog).any (Tryz.prog.loopsFrom ·))) = true := by kernel_rfl
theorem j17 : ((Rows.grantFailsRow.wideKeys == (Tryz.f12.params.toList ++ Rows.grantFailsSpec.plain.varTypes Tryz.prog ++ Tryz.f12.resultTypes.toList).any (Tryz.prog.wideKeysFrom ·))) = true := by kernel_rfl
theorem j18 : (Rows.grantFailsSpec.vars.all (Tryz.prog.varReadable ·)) = true := by kernel_rfl
theorem j19 : (Tryz.f12.resultTypes.all (fun t => Tryz.prog.readableRec t && decide (t < Tryz.prog.types.size))) = true := by kernel_rfl
theorem j20 : ((Rows.grantFailsRow.ifacesOut == Tryz.f12.resultTypes.toList.any (Tryz.prog.ifacesRec ·))) = true := by kernel_rfl
theorem j21 : ((Rows.grantFailsRow.loopsOut == Tryz.f12.resultTypes.toList.any (Tryz.prog.loopsFrom ·))) = true := by kernel_rfl
theorem j22 : ((Rows.grantFailsRow.plainKeys == Tryz.prog.plainKeys)) = true := by kernel_rfl
theorem j23 : (Rows.grantFailsRow.shortTexts.isNone) = true := by kernel_rfl
theorem j24 : (Tryz.prog.stopsHeard) = true := by kernel_rfl
theorem j25 : (Tryz.prog.mayEnter) = true := by kernel_rfl
theorem j26 : ((Rows.grantFailsRow.lifted == Tryz.prog.liftsFinal)) = true := by kernel_rfl
theorem j27 : ((Tryz.prog.make == some Rows.grantFailsRow.make)) = true := by kernel_rfl
theorem j28 : ((Rows.grantFailsRow.kinds == (if Rows.grantFailsRow.domain.isEmpty then [] else Tryz.f12.params.toList.map fun t => match Tryz.prog.underlying t with | some (.int k) => some k | _ => none))) = true := by kernel_rfl
theorem j29 : ((Rows.grantFailsRow.pinned == Rows.grantFailsRow.pinnedBy)) = true := by kernel_rfl
theorem j30 : ((Rows.grantFailsRow.veiled == (Tryz.f12.params.toList ++ Rows.grantFailsSpec.plain.varTypes Tryz.prog ++ Tryz.f12.resultTypes.toList).any (Tryz.prog.veiledRec ·))) = true := by kernel_rfl
theorem j31 : (Rows.grantFailsRow.veiledFits Tryz.prog Tryz.f12.params.toList (Tryz.f12.params.toList ++ Rows.grantFailsSpec.plain.varTypes Tryz.prog ++ Tryz.f12.resultTypes.toList)) = true := by kernel_rfl
set_option maxRecDepth 100000 in
theorem facts : joinedFacts Tryz.prog 12 Tryz.f12 Rows.grantFailsSpec Rows.grantFailsRow = true := by
  unfold joinedFacts
  exact (jand (jand (jand (jand (jand (jand (jand (jand (jand (jand (jand (jand (jand (jand (jand (jand (jand (jand (jand (jand (jand (jand (jand (jand (jand (jand (jand (jand (jand (jand (jand j0 j1) j2) j3) j4) j5) j6) j7) j8) j9) j10) j11) j12) j13) j14) j15) j16) j17) j18) j19) j20) j21) j22) j23) j24) j25) j26) j27) j28) j29) j30) j31)
theorem over : Rows.grantFailsRow.holds Tryz.pinned (OpenSpec.ofChange Rows.grantFailsSpec) :=
  OpenClaim.holds_of_wide 12 Tryz.f12 rfl rfl rfl rfl rfl rfl rfl ⟨rfl, rfl, rfl, rfl, rfl⟩ rfl rfl rfl rfl rfl (by kernel_rfl) Tryz.func12 facts
    (of_decide_eq_true (by kernel_rfl)) (by unfold Func.isWrapper; first | (rw [if_pos (by decide +kernel)]; kernel_rfl) | (rw [if_neg (by decide +kernel)]; exact ⟨rfl, rfl⟩))
    (fun os started H enc _ => lifted os started H enc)
end Go.Proofs.YtadhiihnnkcagaaGreatDoor.grantFails
namespace Go.Proofs.YtadhiihnnkcagaaGreatDoor
theorem grantFails : Rows.GrantFailsCardSaid :=
  Claim7.holds_tied_plain_at .later [] [.data, .data, .data, .data, .data, .widerDeep, .pinned] true (true, "ab201521280da2ff598e2fff5b5ac2b486f821943f5863e0f88b6e8751cf499e") false grantFails.over (fun _ h => by cases h) (by kernel_rfl) (fun _ h => by cases h) grantFails_row_tie rfl ⟨rfl, rfl⟩ (by kernel_rfl) rfl
    (fun f fn hf hfn => by
      obtain rfl : f = 12 := Option.some.inj ((show Tryz.prog.funcNamed "matricula/matriculalaw20.GrantFails" = some 12 by kernel_rfl).symm.trans hf) |>.symm
      obtain rfl : fn = Tryz.f12 := (Option.some.inj (Tryz.func12.symm.trans hfn)).symm
      exact ⟨by kernel_rfl, fun j t ht => by
        rw [Tryz.params12] at ht
        have hm : t ∈ [34, 88, 97] := by simpa using Array.mem_of_getElem? ht
        have hall : ([34, 88, 97].all fun u => !Tryz.prog.wantsStandIn u) = true := by kernel_rfl
        exact (show Tryz.prog.wantsStandIn t = false by simpa using List.all_eq_true.1 hall t hm)⟩)
    (by kernel_rfl)
end Go.Proofs.YtadhiihnnkcagaaGreatDoor
