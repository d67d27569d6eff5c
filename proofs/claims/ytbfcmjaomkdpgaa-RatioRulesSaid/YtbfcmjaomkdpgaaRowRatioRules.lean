/- The law RatioRules holds of the given program: the row, out of the walk. No conditions. -/
import Derived.Test.YtbfcmjaomkdpgaaRows
import Derived.Test.YtbfcmjaomkdpgaaWmRatioRules5
import Derived.WalkKit
import Derived.ProofKit
import Derived.OpenShut
import Derived.ShutString
import Derived.ChangeOld
import Derived.Below
import Derived.SizedLaws
namespace Go.Proofs.Ytbfcmjaomkdpgaa.ratioRules
open Go.ChangeShapes Go.WideShapes Go.ChangeAt Go.RowKit
open Go.ChangeMaps (open_string shut_string)
open Go.Proofs.Wk
set_option linter.unusedVariables false
theorem own : ownKnob Try.prog.godebug = none := by kernel_rfl
theorem laidOut : laidOutB Try.prog = true := by kernel_rfl
set_option maxHeartbeats 8000000 in
set_option maxRecDepth 100000 in
theorem lifted (os : Os) (started : os.Started) (H : Type) (enc : TypeId × Value → H) :
    ReturnsInHanded {} Try.checked os 8 .any (Rows.ratioRulesSpec.pre6 enc Try.prog Try.f8 Rows.ratioRulesRow.domain false) (Rows.ratioRulesSpec.post enc Try.prog Try.f8 false true false false) := by
  refine returnsInHanded_of_change_sized (C := Try.checked) own started (by kernel_rfl) Try.func8
    (ChangeSpec.witness6 (enc := enc) (C := Try.checked) false ⟨#[], #[.agg #[.int .u64 0, .int .u64 0], .agg #[.int .u64 0, .int .u64 0], .agg #[.int .u64 0, .int .u64 0]], []⟩ 8 (by kernel_rfl) (by kernel_rfl) (by kernel_rfl) (by kernel_rfl)) ?_
  intro W base args ds gs before hval0 hW hcnd hsz0 _
  have hval : ∀ (j : Nat) t v, Try.f8.params[j]? = some t → args[j]? = some v → Value.okWide Try.prog W .any base t v := hval0
  have hW' := hW
  obtain ⟨p, q, hA0, hV, rfl, hfz, hnd⟩ := hW
  have hA : DataW.TrodAll enc Try.prog W 0 (fun _ => true) true Try.f8.params.toList args.toList ds p := hA0
  rw [Try.params8] at hA hval
  obtain ⟨v0, vs0, d0, ds0, p0, q0, hargs, rfl, rfl, h0, r0⟩ := trodAll_cons hA
  obtain ⟨v1, vs1, d1, ds1, p1, q1, rfl, rfl, rfl, h1, r1⟩ := trodAll_cons r0
  obtain ⟨v2, vs2, d2, ds2, p2, q2, rfl, rfl, rfl, h2, r2⟩ := trodAll_cons r1
  obtain ⟨rfl, rfl, rfl⟩ := trodAll_nil r2
  obtain rfl : args = #[v0, v1, v2] := by cases args; simp_all
  obtain ⟨rfl, rfl⟩ := trodVars_none hV
  have k0 := h0
  have lt0 : ∀ x ∈ p0, x.block < W.heap.size := by obtain ⟨m, hm⟩ := k0; exact DataW.trod_lt m _ _ _ hm
  obtain ⟨x0, hK0, G0⟩ := opn_arg (opn_iarr Try.underlying69 Try.underlying29 (by kernel_rfl) (by kernel_rfl)) h0
  obtain ⟨cs0, rfl⟩ := okw_arr Try.underlying69 (hval 0 69 v0 rfl rfl)
  obtain ⟨l0_, e0_⟩ := hK0
  obtain ⟨x0_0, x0_1, rfl⟩ := arr2 l0_
  obtain rfl : cs0 = #[.int .u64 x0_0, .int .u64 x0_1] := by cases cs0; simpa [Value.cells] using e0_
  have k1 := h1
  have lt1 : ∀ x ∈ p1, x.block < W.heap.size := by obtain ⟨m, hm⟩ := k1; exact DataW.trod_lt m _ _ _ hm
  obtain ⟨x1, hK1, G1⟩ := opn_arg (opn_iarr Try.underlying69 Try.underlying29 (by kernel_rfl) (by kernel_rfl)) h1
  obtain ⟨cs1, rfl⟩ := okw_arr Try.underlying69 (hval 1 69 v1 rfl rfl)
  obtain ⟨l1_, e1_⟩ := hK1
  obtain ⟨x1_0, x1_1, rfl⟩ := arr2 l1_
  obtain rfl : cs1 = #[.int .u64 x1_0, .int .u64 x1_1] := by cases cs1; simpa [Value.cells] using e1_
  have k2 := h2
  have lt2 : ∀ x ∈ p2, x.block < W.heap.size := by obtain ⟨m, hm⟩ := k2; exact DataW.trod_lt m _ _ _ hm
  obtain ⟨x2, hK2, G2⟩ := opn_arg (opn_iarr Try.underlying69 Try.underlying29 (by kernel_rfl) (by kernel_rfl)) h2
  obtain ⟨cs2, rfl⟩ := okw_arr Try.underlying69 (hval 2 69 v2 rfl rfl)
  obtain ⟨l2_, e2_⟩ := hK2
  obtain ⟨x2_0, x2_1, rfl⟩ := arr2 l2_
  obtain rfl : cs2 = #[.int .u64 x2_0, .int .u64 x2_1] := by cases cs2; simpa [Value.cells] using e2_
  refine (RatioRules_ct x0_0 x0_1 x1_0 x1_1 x2_0 x2_1 (bu64 (G0 x0_0 (by simp))) (bu64 (G0 x0_1 (by simp))) (bu64 (G1 x1_0 (by simp))) (bu64 (G1 x1_1 (by simp))) (bu64 (G2 x2_0 (by simp))) (bu64 (G2 x2_1 (by simp))) |>.row (fun _ _ => trivial)).mono fun e W' ⟨⟨_, he, _⟩, bel⟩ => ?_
  subst he
  exact ⟨_, rfl, _, _, _, [], _, [], hW', trodAll_mk1 (shut_bool Try.underlying4 _), (trodAll_cons_mk (Below.trod laidOut (by kernel_rfl) (of_decide_eq_true (by kernel_rfl)) k0 bel lt0) (trodAll_cons_mk (Below.trod laidOut (by kernel_rfl) (of_decide_eq_true (by kernel_rfl)) k1 bel lt1) (trodAll_cons_mk (Below.trod laidOut (by kernel_rfl) (of_decide_eq_true (by kernel_rfl)) k2 bel lt2) trodAll_mk0))), rfl, bel.frame _, fun h => by cases h⟩
theorem over : Rows.ratioRulesRow.holds Try.pinned (OpenSpec.ofChange Rows.ratioRulesSpec) :=
  OpenClaim.holds_of_wide 8 Try.f8 rfl rfl rfl rfl rfl rfl rfl ⟨rfl, rfl, rfl, rfl, rfl⟩ rfl rfl rfl rfl rfl (by kernel_rfl) Try.func8 (by kernel_rfl)
    (of_decide_eq_true (by kernel_rfl)) (by unfold Func.isWrapper; first | (rw [if_pos (by decide +kernel)]; kernel_rfl) | (rw [if_neg (by decide +kernel)]; exact ⟨rfl, rfl⟩))
    (fun os started H enc _ => lifted os started H enc)
theorem proved : Rows.RatioRulesSaid := over
#print axioms proved
end Go.Proofs.Ytbfcmjaomkdpgaa.ratioRules
namespace Go.Proofs.Ytbfcmjaomkdpgaa
/-- The row, under a short name, for the claim. -/
theorem ratioRules_holds : Rows.RatioRulesSaid := ratioRules.proved
end Go.Proofs.Ytbfcmjaomkdpgaa
