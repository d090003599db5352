/- 'RankSorts': what the row says. -/
import Derived.Test.YtfmdhpgfbojjaaaW16i
import Derived.Test.YtfmdhpgfbojjaaaRows
import Derived.Test.YtfmdhpgfbojjaaaGkZ
import Derived.WalkKit
import Derived.ProofKit
import Derived.OpenShut
import Derived.KernelRfl
namespace Go.Proofs.Ytfmdhpgfbojjaaa.rankSorts
open Go.ChangeShapes Go.WideShapes Go.ChangeAt Go.RowKit Gk
open Go.ChangeMaps (open_string shut_string)
set_option linter.unusedVariables false
theorem knob : ownKnob Try.prog.godebug = none := by kernel_rfl
theorem laid : laidOutB Try.prog = true := by kernel_rfl
set_option maxRecDepth 100000 in
theorem lifted (os : Os) (started : os.Started) (H : Type) (enc : TypeId × Value → H) :
    ReturnsInHanded {} Try.checked os 8 .any (Rows.rankSortsSpec.pre6 enc Try.prog Try.f8 Rows.rankSortsRow.domain false) (Rows.rankSortsSpec.post enc Try.prog Try.f8 false true false false) := by
  refine returnsInHanded_of_change (C := Try.checked) knob started (by kernel_rfl) Try.func8
    (ChangeSpec.witness6 (enc := enc) (C := Try.checked) false ⟨#[], #[.slice none 0 0], []⟩ 8 (by kernel_rfl) (by kernel_rfl) (by kernel_rfl) (by kernel_rfl)) ?_
  intro W base args ds gs before hval0 hW hcnd _
  have hval : ∀ (j : Nat) t v, Try.f8.params[j]? = some t → args[j]? = some v → Value.okWide Try.prog W .any base t v := hval0
  have hW' := hW
  obtain ⟨p, q, hA0, hV, rfl, hfz, hnd⟩ := hW
  have hA : DataW.TrodAll enc Try.prog W 0 (fun _ => true) true Try.f8.params.toList args.toList ds p := hA0
  rw [Try.params8] at hA hval
  obtain ⟨v0, vs0, d0, ds0, p0, q0, hargs, rfl, rfl, h0, r0⟩ := trodAll_cons hA
  obtain ⟨rfl, rfl, rfl⟩ := trodAll_nil r0
  obtain rfl : args = #[v0] := by cases args; simp_all
  obtain ⟨rfl, rfl⟩ := trodVars_none hV
  have k0 := h0
  obtain ⟨s0, len0, cap0, rfl⟩ := Go.WideShapes.okWide_slice Try.underlying22 (hval 0 22 v0 rfl rfl)
  obtain ⟨z0, rfl, r0_, w0⟩ := open_row Try.underlying22 Try.underlying27 (by kernel_rfl) h0
  clear hA0 hval0
  simp only [List.append_nil] at hW'
  refine (RankSorts_any s0 z0 cap0 W W (im0 W) [] (sat0 W) r0_ w0).mono fun e W' he => ?_
  obtain ⟨_, rfl, rfl, J, hJ, hS⟩ := he
  exact ⟨_, rfl, post_law2 (pv := []) hW' (hS.below hJ) (fun _ _ _ => (trodAll_cons_mk (shut_bool Try.underlying4 _) trodAll_mk0)) ((trodAll_cons_mk (Go.RowKit.Below.trod laid (by kernel_rfl) (of_decide_eq_true (by kernel_rfl)) k0 (hS.below hJ) (fun x hx => by simpa using hW'.lt x (by simp [hx]))) trodAll_mk0)) rfl (by simp)⟩
theorem over : Rows.rankSortsRow.holds Try.pinned (OpenSpec.ofChange Rows.rankSortsSpec) :=
  OpenClaim.holds_of_wide 8 Try.f8 rfl rfl rfl rfl rfl rfl rfl ⟨rfl, rfl, rfl, rfl, rfl⟩ rfl rfl rfl rfl rfl (by kernel_rfl) Try.func8 (by kernel_rfl)
    (of_decide_eq_true (by kernel_rfl)) (by unfold Func.isWrapper; first | (rw [if_pos (by decide +kernel)]; kernel_rfl) | (rw [if_neg (by decide +kernel)]; exact ⟨rfl, rfl⟩))
    (fun os started H enc _ => lifted os started H enc)
end Go.Proofs.Ytfmdhpgfbojjaaa.rankSorts
namespace Go.Proofs.Ytfmdhpgfbojjaaa
theorem rankSorts : Rows.RankSortsSaid := rankSorts.over
end Go.Proofs.Ytfmdhpgfbojjaaa
