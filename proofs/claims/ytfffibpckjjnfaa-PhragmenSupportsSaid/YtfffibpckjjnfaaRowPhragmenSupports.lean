/- The law PhragmenSupports holds of the given program: the row, out of the walk. No conditions. -/
import Derived.Test.YtfffibpckjjnfaaRows
import Derived.Test.YtfffibpckjjnfaaWmPhragmenSupports6
import Derived.WalkKit
import Derived.ProofKit
import Derived.OpenShut
import Derived.ShutString
import Derived.ChangeOld
import Derived.Below
import Derived.SizedLaws
namespace Go.Proofs.Ytfffibpckjjnfaa.phragmenSupports
open Go.ChangeShapes Go.WideShapes Go.ChangeAt Go.RowKit
open Go.ChangeMaps (open_string shut_string)
open Go.Proofs.Wk
set_option linter.unusedVariables false
theorem own : ownKnob Try.prog.godebug = none := by kernel_rfl
theorem laidOut : laidOutB Try.prog = true := by kernel_rfl
set_option maxHeartbeats 8000000 in
set_option maxRecDepth 100000 in
theorem lifted (os : Os) (started : os.Started) (H : Type) (enc : TypeId × Value → H) :
    ReturnsInHanded {} Try.checked os 3 .any (Rows.phragmenSupportsSpec.pre6 enc Try.prog Try.f3 Rows.phragmenSupportsRow.domain false) (Rows.phragmenSupportsSpec.post enc Try.prog Try.f3 false true false false) := by
  refine returnsInHanded_of_change_sized (C := Try.checked) own started (by kernel_rfl) Try.func3
    (ChangeSpec.witness6 (enc := enc) (C := Try.checked) false ⟨#[], #[.slice none 0 0, .slice none 0 0], []⟩ 8 (by kernel_rfl) (by kernel_rfl) (by kernel_rfl) (by kernel_rfl)) ?_
  intro W base args ds gs before hval0 hW hcnd hsz0 _
  have hval : ∀ (j : Nat) t v, Try.f3.params[j]? = some t → args[j]? = some v → Value.okWide Try.prog W .any base t v := hval0
  have hW' := hW
  obtain ⟨p, q, hA0, hV, rfl, hfz, hnd⟩ := hW
  have hA : DataW.TrodAll enc Try.prog W 0 (fun _ => true) true Try.f3.params.toList args.toList ds p := hA0
  rw [Try.params3] at hA hval
  obtain ⟨v0, vs0, d0, ds0, p0, q0, hargs, rfl, rfl, h0, r0⟩ := trodAll_cons hA
  obtain ⟨v1, vs1, d1, ds1, p1, q1, rfl, rfl, rfl, h1, r1⟩ := trodAll_cons r0
  obtain ⟨rfl, rfl, rfl⟩ := trodAll_nil r1
  obtain rfl : args = #[v0, v1] := by cases args; simp_all
  obtain ⟨rfl, rfl⟩ := trodVars_none hV
  have k0 := h0
  have lt0 : ∀ x ∈ p0, x.block < W.heap.size := by obtain ⟨m, hm⟩ := k0; exact DataW.trod_lt m _ _ _ hm
  obtain ⟨x0, hK0, G0⟩ := opn_arg (opn_slice (sz := 1) Try.underlying22 (by kernel_rfl) (opn_int Try.underlying3)) h0
  obtain ⟨a0, len0, cap0, rfl⟩ := okWide_slice Try.underlying22 (hval 0 22 v0 rfl rfl)
  obtain ⟨A0_0, c0_0, e0_, hr0_0⟩ := hK0
  injection e0_ with e0_ _
  injection e0_ with ea0_ en0_ ec0_
  subst ea0_; subst en0_; subst ec0_
  have k1 := h1
  have lt1 : ∀ x ∈ p1, x.block < W.heap.size := by obtain ⟨m, hm⟩ := k1; exact DataW.trod_lt m _ _ _ hm
  obtain ⟨x1, hK1, G1⟩ := opn_arg (opn_slice (sz := 4) Try.underlying23 (by kernel_rfl) (opn_struct3 (z0 := 1) (z1 := 1) (z2 := 2) Try.underlying74 (opn_int Try.underlying3) (opn_int Try.underlying3) (opn_struct2 (s0 := 1) (s1 := 1) Try.underlying42 (opn_slice (sz := 1) Try.underlying40 (by kernel_rfl) (opn_int Try.underlying107)) (opn_slice (sz := 1) Try.underlying40 (by kernel_rfl) (opn_int Try.underlying107)) rfl rfl (by kernel_rfl) (by kernel_rfl) (by kernel_rfl)) rfl rfl rfl (by kernel_rfl) (by kernel_rfl) (by kernel_rfl) (by kernel_rfl))) h1
  obtain ⟨a1, len1, cap1, rfl⟩ := okWide_slice Try.underlying23 (hval 1 23 v1 rfl rfl)
  obtain ⟨A1_0, c1_0, e1_, hr1_0⟩ := hK1
  injection e1_ with e1_ _
  injection e1_ with ea1_ en1_ ec1_
  subst ea1_; subst en1_; subst ec1_
  obtain ⟨vs, hvs, hR⟩ := shares_of hr1_0
  have hlen : vs.length = x1.length := by rw [← hvs, List.length_map]
  have ct := PhragmenSupports_ct eawake_ct x0 (a0, cap0) vs (a1, cap1) (shares_wf hvs G1)
  rw [show ssV vs (a1, cap1) = .slice a1 x1.length cap1 by show Value.slice _ vs.length _ = _; rw [hlen]] at ct
  refine (ct.row (fun w' k => ⟨rows_later (pers_int _) k hr0_0, rows_later pers_S k hR⟩)).mono fun e W' ⟨⟨_, he, _⟩, bel⟩ => ?_
  subst he
  exact ⟨_, rfl, _, _, _, [], _, [], hW', trodAll_mk1 (shut_bool Try.underlying4 _), (trodAll_cons_mk (Below.trod laidOut (by kernel_rfl) (of_decide_eq_true (by kernel_rfl)) k0 bel lt0) (trodAll_cons_mk (Below.trod laidOut (by kernel_rfl) (of_decide_eq_true (by kernel_rfl)) k1 bel lt1) trodAll_mk0)), rfl, bel.frame _, fun h => by cases h⟩
theorem over : Rows.phragmenSupportsRow.holds Try.pinned (OpenSpec.ofChange Rows.phragmenSupportsSpec) :=
  OpenClaim.holds_of_wide 3 Try.f3 rfl rfl rfl rfl rfl rfl rfl ⟨rfl, rfl, rfl, rfl, rfl⟩ rfl rfl rfl rfl rfl (by kernel_rfl) Try.func3 (by kernel_rfl)
    (of_decide_eq_true (by kernel_rfl)) (by unfold Func.isWrapper; first | (rw [if_pos (by decide +kernel)]; kernel_rfl) | (rw [if_neg (by decide +kernel)]; exact ⟨rfl, rfl⟩))
    (fun os started H enc _ => lifted os started H enc)
theorem proved : Rows.PhragmenSupportsSaid := over
#print axioms proved
end Go.Proofs.Ytfffibpckjjnfaa.phragmenSupports
namespace Go.Proofs.Ytfffibpckjjnfaa
/-- The row, under a short name, for the claim. -/
theorem phragmenSupports_holds : Rows.PhragmenSupportsSaid := phragmenSupports.proved
end Go.Proofs.Ytfffibpckjjnfaa
