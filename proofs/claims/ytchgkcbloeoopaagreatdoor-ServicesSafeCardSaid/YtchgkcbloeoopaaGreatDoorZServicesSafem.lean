/- ServicesSafe: for every input the law answers true, and each argument reads as it did; the listed package variables start as the text of the program lays them (the card ties them). -/
import Derived.Test.YtchgkcbloeoopaaGreatDoorM18H
import Derived.Test.YtchgkcbloeoopaaGreatDoorRows
import Derived.Test.YtchgkcbloeoopaaGreatDoorCards
import Derived.Test.YtchgkcbloeoopaaGreatDoorTie
import Derived.WalkKit
import Derived.ProofKit
import Derived.OpenShut
import Derived.KernelRfl
import Derived.LaidOnce
import Derived.SevenTiedAt
namespace Go.Proofs.YtchgkcbloeoopaaGreatDoor.servicesSafe
open Go.ChangeShapes Go.WideShapes Go.ChangeAt Go.RowKit Gk
open Go.ChangeMaps (open_string shut_string)
set_option linter.unusedVariables false
theorem knob : ownKnob Tryz.prog.godebug = none := by kernel_rfl
theorem laidOut : laidOutB Tryz.prog = true := by kernel_rfl
theorem plainLaid : (Rows.servicesSafeRow.laid.all fun x => x.2.handleName?.isNone) = true := by kernel_rfl
theorem wit1 (os : Os) : ((World.laidAll Tryz.prog os Rows.servicesSafeRow.laid).forCall (fun _ _ => 0) ⟨#[], #[.slice none 0 0, .string ⟨#[]⟩, .int .i64 0], []⟩).Shaped Tryz.prog := World.shaped_of_ZipB (by kernel_rfl) (by kernel_rfl)
theorem wit2 (os : Os) : laidMetH Tryz.prog Rows.servicesSafeRow.laid ((World.laidAll Tryz.prog os Rows.servicesSafeRow.laid).forCall (fun _ _ => 0) ⟨#[], #[.slice none 0 0, .string ⟨#[]⟩, .int .i64 0], []⟩).memory := by
  rw [MakeChecks.laidMetH_plain _ _ _ plainLaid]
  exact laidMet_laidAll _ (by kernel_rfl) (by kernel_rfl)
theorem wit3 (os : Os) : Input.okWideB Tryz.checked.prog ((World.laidAll Tryz.prog os Rows.servicesSafeRow.laid).forCall (fun _ _ => 0) ⟨#[], #[.slice none 0 0, .string ⟨#[]⟩, .int .i64 0], []⟩) 7 ⟨#[], #[.slice none 0 0, .string ⟨#[]⟩, .int .i64 0], []⟩ = true := by kernel_rfl
theorem wit4 (os : Os) (H : Type) (enc : TypeId × Value → H) : Rows.servicesSafeSpec.preB enc Tryz.checked.prog Tryz.f7 Rows.servicesSafeRow.domain false ((World.laidAll Tryz.prog os Rows.servicesSafeRow.laid).forCall (fun _ _ => 0) ⟨#[], #[.slice none 0 0, .string ⟨#[]⟩, .int .i64 0], []⟩).memory #[.slice none 0 0, .string ⟨#[]⟩, .int .i64 0] 8 = true := by kernel_rfl
theorem wit5 (os : Os) (H : Type) (enc : TypeId × Value → H) : Rows.servicesSafeSpec.sizedB enc Tryz.checked.prog Tryz.f7 false ((World.laidAll Tryz.prog os Rows.servicesSafeRow.laid).forCall (fun _ _ => 0) ⟨#[], #[.slice none 0 0, .string ⟨#[]⟩, .int .i64 0], []⟩).memory #[.slice none 0 0, .string ⟨#[]⟩, .int .i64 0] 8 = true := by kernel_rfl
theorem wit (os : Os) (H : Type) (enc : TypeId × Value → H) : WitT enc {} Tryz.checked os 7 Tryz.f7 Rows.servicesSafeSpec Rows.servicesSafeRow.domain false (fun w _ => laidMetH Tryz.prog Rows.servicesSafeRow.laid w) :=
  ChangeSpec.witness_shaped (X := (fun w _ => laidMetH Tryz.prog Rows.servicesSafeRow.laid w)) false (World.laidAll Tryz.prog os Rows.servicesSafeRow.laid) #[.slice none 0 0, .string ⟨#[]⟩, .int .i64 0] 8 (World.laidAll_os _ _ _) (wit1 os) (wit3 os) (wit4 os H enc) (wit5 os H enc) (wit2 os)
set_option maxRecDepth 100000 in
theorem lifted (os : Os) (started : os.Started) (H : Type) (enc : TypeId × Value → H) :
    ReturnsInHanded {} Tryz.checked os 7 .any (fun w args => (Rows.servicesSafeSpec.pre enc Tryz.prog Tryz.f7 Rows.servicesSafeRow.domain false w args ∧ laidMetH Tryz.prog Rows.servicesSafeRow.laid w) ∧ sizedMet enc Tryz.prog Tryz.f7 (OpenSpec.ofChange Rows.servicesSafeSpec) false w args) (Rows.servicesSafeSpec.post enc Tryz.prog Tryz.f7 false true false false) := by
  refine returns_and_shaped (C := Tryz.checked) (X := (fun w _ => laidMetH Tryz.prog Rows.servicesSafeRow.laid w)) (fun _ _ _ hh h => h.of_heap hh) knob started (by kernel_rfl) Tryz.func7 (wit os H enc) ?_
  intro W base args ds gs before hval0 hW hL0 hsh
  have hL := hL0
  rw [MakeChecks.laidMetH_plain _ _ _ plainLaid] at hL
  have hK := known_of (Lib.laidMet.reads hL (.tail _ (.tail _ (.tail _ (.tail _ (.head _)))))) (Lib.laidMet.reads hL (.tail _ (.tail _ (.head _)))) hsh
  have hval : ∀ (j : Nat) t v, Tryz.f7.params[j]? = some t → args[j]? = some v → Value.okWide Tryz.prog W .any base t v := hval0
  have hW' := hW
  obtain ⟨p, q, hA0, hV, rfl, hfz, hnd⟩ := hW
  have hA : DataW.TrodAll enc Tryz.prog W 0 (fun _ => true) true Tryz.f7.params.toList args.toList ds p := hA0
  rw [Tryz.params7] at hA hval
  obtain ⟨v0, vs0, d0, ds0, p0, q0, hargs, rfl, rfl, h0, r0⟩ := trodAll_cons hA
  obtain ⟨v1, vs1, d1, ds1, p1, q1, rfl, rfl, rfl, h1, r1⟩ := trodAll_cons r0
  obtain ⟨v2, vs2, d2, ds2, p2, q2, rfl, rfl, rfl, h2, r2⟩ := trodAll_cons r1
  obtain ⟨rfl, rfl, rfl⟩ := trodAll_nil r2
  obtain rfl : args = #[v0, v1, v2] := by cases args; simp_all
  obtain ⟨rfl, rfl⟩ := trodVars_none hV
  have k0 := h0
  obtain ⟨f0, hf0⟩ := h0
  obtain ⟨sa0, sn0, sc0, rfl⟩ := Go.WideShapes.okWide_slice Tryz.underlying22 (hval 0 22 v0 rfl rfl)
  obtain ⟨a0, cap0, L0, l0, hc0, hcap0, hcm0, hLl0, h80, hR0, hS0⟩ := open_svcs hf0
  simp [Value.cells] at hc0
  obtain ⟨rfl, rfl, rfl⟩ := hc0
  have hl0 := svs_in hLl0 h80 hR0 (fun i s hs => (hS0 i s hs).2)
  have hfit0 : ∀ s ∈ l0, s.fits := fun s hs => by
    obtain ⟨i, hi⟩ := List.mem_iff_getElem?.1 hs
    exact (hS0 i s hi).1
  rw [hLl0] at hcap0
  rw [hLl0] at hW' k0 ⊢
  obtain ⟨s1, rfl, rfl, rfl, w1⟩ := open_string Tryz.underlying9 (hval 1 9 v1 rfl rfl) h1
  obtain ⟨s2, rfl, rfl, rfl, w2⟩ := open_int Tryz.underlying3 (hval 2 3 v2 rfl rfl) h2
  clear hA0 hval0
  simp only [List.append_nil] at hW'
  refine (ServicesSafe_any _ sc0 L0 l0 hcap0 hcm0 hfit0 s1.data.toList s2 W W (im0 W) hK hl0 [] (sat0 W)).mono fun e W' he => ?_
  obtain ⟨_, rfl, rfl, J, hJ, hS⟩ := he
  exact ⟨_, rfl, post_law2 (pv := []) hW' (hS.below hJ) (fun _ _ _ => (trodAll_cons_mk (shut_bool Tryz.underlying4 _) trodAll_mk0)) ((trodAll_cons_mk (Go.RowKit.Below.trod laidOut (by kernel_rfl) (of_decide_eq_true (by kernel_rfl)) k0 (hS.below hJ) (fun x hx => by simpa using hW'.lt x (by simp [hx]))) (trodAll_cons_mk (shut_string Tryz.underlying9 w1) (trodAll_cons_mk (shut_int Tryz.underlying3 w2) trodAll_mk0)))) rfl (by simp)⟩
theorem over : Rows.servicesSafeRow.holds Tryz.pinned (OpenSpec.ofChange Rows.servicesSafeSpec) :=
  OpenClaim.holds_of_wide 7 Tryz.f7 rfl rfl rfl rfl rfl rfl rfl ⟨rfl, rfl, rfl, rfl, rfl⟩ rfl rfl rfl rfl rfl (by kernel_rfl) Tryz.func7 (by kernel_rfl)
    (of_decide_eq_true (by kernel_rfl)) (by unfold Func.isWrapper; first | (rw [if_pos (by decide +kernel)]; kernel_rfl) | (rw [if_neg (by decide +kernel)]; exact ⟨rfl, rfl⟩))
    (fun os started H enc _ => lifted os started H enc)
end Go.Proofs.YtchgkcbloeoopaaGreatDoor.servicesSafe
namespace Go.Proofs.YtchgkcbloeoopaaGreatDoor
theorem servicesSafe : Rows.ServicesSafeCardSaid :=
  Claim7.holds_tied_plain_at .later [] [.data, .data, .data, .data, .data, .pinned] true (true, "736e9f1297845d9089ea09a7b673bc65e0b735c885e62f0b21580dd1b7bfe755") false servicesSafe.over (fun _ h => by cases h) (by kernel_rfl) (fun _ h => by cases h) servicesSafe_row_tie rfl ⟨rfl, rfl⟩ (by kernel_rfl) rfl
    (fun f fn hf hfn => by
      obtain rfl : f = 7 := Option.some.inj ((show Tryz.prog.funcNamed "matricula/matriculalaw18.ServicesSafe" = some 7 by kernel_rfl).symm.trans hf) |>.symm
      obtain rfl : fn = Tryz.f7 := (Option.some.inj (Tryz.func7.symm.trans hfn)).symm
      exact ⟨by kernel_rfl, fun j t ht => by
        rw [Tryz.params7] at ht
        have hm : t ∈ [22, 9, 3] := by simpa using Array.mem_of_getElem? ht
        have hall : ([22, 9, 3].all fun u => !Tryz.prog.wantsStandIn u) = true := by kernel_rfl
        exact (show Tryz.prog.wantsStandIn t = false by simpa using List.all_eq_true.1 hall t hm)⟩)
    (by kernel_rfl)
end Go.Proofs.YtchgkcbloeoopaaGreatDoor
