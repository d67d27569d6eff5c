/- The law WholeNear holds of the given program: the row, out of the walk. No conditions. -/
import Derived.Test.YtfffibpckjjnfaaRows
import Derived.Test.YtfffibpckjjnfaaWmWholeNear5
import Derived.WalkKit
import Derived.ProofKit
import Derived.OpenShut
import Derived.ShutString
import Derived.ChangeOld
import Derived.Below
import Derived.SizedLaws
namespace Go.Proofs.Ytfffibpckjjnfaa.wholeNear
open Go.ChangeShapes Go.WideShapes Go.ChangeAt Go.RowKit
open Go.ChangeMaps (open_string shut_string)
open Go.Proofs.Wk
set_option linter.unusedVariables false
theorem own : ownKnob Try.prog.godebug = none := by kernel_rfl
theorem laidOut : laidOutB Try.prog = true := by kernel_rfl
set_option maxHeartbeats 8000000 in
set_option maxRecDepth 100000 in
theorem lifted (os : Os) (started : os.Started) (H : Type) (enc : TypeId × Value → H) :
    ReturnsInHanded {} Try.checked os 5 .any (Rows.wholeNearSpec.pre6 enc Try.prog Try.f5 Rows.wholeNearRow.domain false) (Rows.wholeNearSpec.post enc Try.prog Try.f5 false true false false) := by
  refine returnsInHanded_of_change_sized (C := Try.checked) own started (by kernel_rfl) Try.func5
    (ChangeSpec.witness6 (enc := enc) (C := Try.checked) false ⟨#[], #[.slice none 0 0], []⟩ 8 (by kernel_rfl) (by kernel_rfl) (by kernel_rfl) (by kernel_rfl)) ?_
  intro W base args ds gs before hval0 hW hcnd hsz0 _
  have hval : ∀ (j : Nat) t v, Try.f5.params[j]? = some t → args[j]? = some v → Value.okWide Try.prog W .any base t v := hval0
  have hW' := hW
  obtain ⟨p, q, hA0, hV, rfl, hfz, hnd⟩ := hW
  have hA : DataW.TrodAll enc Try.prog W 0 (fun _ => true) true Try.f5.params.toList args.toList ds p := hA0
  rw [Try.params5] at hA hval
  obtain ⟨v0, vs0, d0, ds0, p0, q0, hargs, rfl, rfl, h0, r0⟩ := trodAll_cons hA
  obtain ⟨rfl, rfl, rfl⟩ := trodAll_nil r0
  obtain rfl : args = #[v0] := by cases args; simp_all
  obtain ⟨rfl, rfl⟩ := trodVars_none hV
  have k0 := h0
  have lt0 : ∀ x ∈ p0, x.block < W.heap.size := by obtain ⟨m, hm⟩ := k0; exact DataW.trod_lt m _ _ _ hm
  obtain ⟨x0, hK0, G0⟩ := opn_arg (opn_slice (sz := 2) Try.underlying32 (by kernel_rfl) (opn_struct2 (s0 := 1) (s1 := 1) Try.underlying42 (opn_slice (sz := 1) Try.underlying40 (by kernel_rfl) (opn_int Try.underlying107)) (opn_slice (sz := 1) Try.underlying40 (by kernel_rfl) (opn_int Try.underlying107)) rfl rfl (by kernel_rfl) (by kernel_rfl) (by kernel_rfl))) h0
  obtain ⟨a0, len0, cap0, rfl⟩ := okWide_slice Try.underlying32 (hval 0 32 v0 rfl rfl)
  obtain ⟨A0_0, c0_0, e0_, hr0_0⟩ := hK0
  injection e0_ with e0_ _
  injection e0_ with ea0_ en0_ ec0_
  subst ea0_; subst en0_; subst ec0_
  obtain ⟨vs, hvs, hR⟩ := weights hr0_0
  have hlen : vs.length = x0.length := by rw [← hvs, List.length_map]
  have ct := WholeNear_ct vs (a0, cap0) (weights_wf hvs G0)
  rw [show rsV vs (a0, cap0) = .slice a0 x0.length cap0 by show Value.slice _ vs.length _ = _; rw [hlen]] at ct
  refine (ct.row (fun w' k => rows_later pers_R k hR)).mono fun e W' ⟨⟨_, he, _⟩, bel⟩ => ?_
  subst he
  exact ⟨_, rfl, _, _, _, [], _, [], hW', trodAll_mk1 (shut_bool Try.underlying4 _), (trodAll_cons_mk (Below.trod laidOut (by kernel_rfl) (of_decide_eq_true (by kernel_rfl)) k0 bel lt0) trodAll_mk0), rfl, bel.frame _, fun h => by cases h⟩
theorem over : Rows.wholeNearRow.holds Try.pinned (OpenSpec.ofChange Rows.wholeNearSpec) :=
  OpenClaim.holds_of_wide 5 Try.f5 rfl rfl rfl rfl rfl rfl rfl ⟨rfl, rfl, rfl, rfl, rfl⟩ rfl rfl rfl rfl rfl (by kernel_rfl) Try.func5 (by kernel_rfl)
    (of_decide_eq_true (by kernel_rfl)) (by unfold Func.isWrapper; first | (rw [if_pos (by decide +kernel)]; kernel_rfl) | (rw [if_neg (by decide +kernel)]; exact ⟨rfl, rfl⟩))
    (fun os started H enc _ => lifted os started H enc)
theorem proved : Rows.WholeNearSaid := over
#print axioms proved
end Go.Proofs.Ytfffibpckjjnfaa.wholeNear
namespace Go.Proofs.Ytfffibpckjjnfaa
/-- The row, under a short name, for the claim. -/
theorem wholeNear_holds : Rows.WholeNearSaid := wholeNear.proved
end Go.Proofs.Ytfffibpckjjnfaa
