/- The law RatioSums holds of the given program: the row, out of the walk. No conditions. -/
import Derived.Test.YtbfcmjaomkdpgaaRows
import Derived.Test.YtbfcmjaomkdpgaaWmRatioSums6
import Derived.WalkKit
import Derived.ProofKit
import Derived.OpenShut
import Derived.ShutString
import Derived.ChangeOld
import Derived.Below
import Derived.SizedLaws
namespace Go.Proofs.Ytbfcmjaomkdpgaa.ratioSums
open Go.ChangeShapes Go.WideShapes Go.ChangeAt Go.RowKit
open Go.ChangeMaps (open_string shut_string)
open Go.Proofs.Wk
set_option linter.unusedVariables false
theorem own : ownKnob Try.prog.godebug = none := by kernel_rfl
theorem laidOut : laidOutB Try.prog = true := by kernel_rfl
set_option maxHeartbeats 8000000 in
set_option maxRecDepth 100000 in
theorem lifted (os : Os) (started : os.Started) (H : Type) (enc : TypeId × Value → H) :
    ReturnsInHanded {} Try.checked os 7 .any (Rows.ratioSumsSpec.pre6 enc Try.prog Try.f7 Rows.ratioSumsRow.domain false) (Rows.ratioSumsSpec.post enc Try.prog Try.f7 false true false false) := by
  refine returnsInHanded_of_change_sized (C := Try.checked) own started (by kernel_rfl) Try.func7
    (ChangeSpec.witness6 (enc := enc) (C := Try.checked) false ⟨#[], #[.agg #[.slice none 0 0, .slice none 0 0], .agg #[.slice none 0 0, .slice none 0 0]], []⟩ 8 (by kernel_rfl) (by kernel_rfl) (by kernel_rfl) (by kernel_rfl)) ?_
  intro W base args ds gs before hval0 hW hcnd hsz0 _
  have hval : ∀ (j : Nat) t v, Try.f7.params[j]? = some t → args[j]? = some v → Value.okWide Try.prog W .any base t v := hval0
  have hW' := hW
  obtain ⟨p, q, hA0, hV, rfl, hfz, hnd⟩ := hW
  have hA : DataW.TrodAll enc Try.prog W 0 (fun _ => true) true Try.f7.params.toList args.toList ds p := hA0
  rw [Try.params7] at hA hval
  obtain ⟨v0, vs0, d0, ds0, p0, q0, hargs, rfl, rfl, h0, r0⟩ := trodAll_cons hA
  obtain ⟨v1, vs1, d1, ds1, p1, q1, rfl, rfl, rfl, h1, r1⟩ := trodAll_cons r0
  obtain ⟨rfl, rfl, rfl⟩ := trodAll_nil r1
  obtain rfl : args = #[v0, v1] := by cases args; simp_all
  obtain ⟨rfl, rfl⟩ := trodVars_none hV
  have k0 := h0
  have lt0 : ∀ x ∈ p0, x.block < W.heap.size := by obtain ⟨m, hm⟩ := k0; exact DataW.trod_lt m _ _ _ hm
  obtain ⟨x0, hK0, G0⟩ := opn_arg (opn_struct2 (s0 := 1) (s1 := 1) Try.underlying39 (opn_slice (sz := 1) Try.underlying37 (by kernel_rfl) (opn_int Try.underlying64)) (opn_slice (sz := 1) Try.underlying37 (by kernel_rfl) (opn_int Try.underlying64)) rfl rfl (by kernel_rfl) (by kernel_rfl) (by kernel_rfl)) h0
  obtain ⟨cs0, rfl⟩ := okw_agg Try.underlying39 (hval 0 39 v0 rfl rfl)
  obtain ⟨_, _, e0_, ⟨A0_0, c0_0, rfl, hr0_0⟩, ⟨A0_1, c0_1, rfl, hr0_1⟩⟩ := hK0
  obtain rfl : cs0 = #[.slice A0_0 x0.1.length c0_0, .slice A0_1 x0.2.length c0_1] := by cases cs0; simpa [Value.cells] using e0_
  have k1 := h1
  have lt1 : ∀ x ∈ p1, x.block < W.heap.size := by obtain ⟨m, hm⟩ := k1; exact DataW.trod_lt m _ _ _ hm
  obtain ⟨x1, hK1, G1⟩ := opn_arg (opn_struct2 (s0 := 1) (s1 := 1) Try.underlying39 (opn_slice (sz := 1) Try.underlying37 (by kernel_rfl) (opn_int Try.underlying64)) (opn_slice (sz := 1) Try.underlying37 (by kernel_rfl) (opn_int Try.underlying64)) rfl rfl (by kernel_rfl) (by kernel_rfl) (by kernel_rfl)) h1
  obtain ⟨cs1, rfl⟩ := okw_agg Try.underlying39 (hval 1 39 v1 rfl rfl)
  obtain ⟨_, _, e1_, ⟨A1_0, c1_0, rfl, hr1_0⟩, ⟨A1_1, c1_1, rfl, hr1_1⟩⟩ := hK1
  obtain rfl : cs1 = #[.slice A1_0 x1.1.length c1_0, .slice A1_1 x1.2.length c1_1] := by cases cs1; simpa [Value.cells] using e1_
  refine (RatioSums_ct x0.1 x0.2 x1.1 x1.2 ((A0_0, c0_0), (A0_1, c0_1)) ((A1_0, c1_0), (A1_1, c1_1)) (fun x hx => bu32 (G0.1 x hx)) (fun x hx => bu32 (G0.2 x hx)) (fun x hx => bu32 (G1.1 x hx)) (fun x hx => bu32 (G1.2 x hx)) |>.row (fun w' k => ⟨⟨rows_later (pers_int _) k hr0_0, rows_later (pers_int _) k hr0_1⟩, ⟨rows_later (pers_int _) k hr1_0, rows_later (pers_int _) k hr1_1⟩⟩)).mono fun e W' ⟨⟨_, he, _⟩, bel⟩ => ?_
  subst he
  exact ⟨_, rfl, _, _, _, [], _, [], hW', trodAll_mk1 (shut_bool Try.underlying4 _), (trodAll_cons_mk (Below.trod laidOut (by kernel_rfl) (of_decide_eq_true (by kernel_rfl)) k0 bel lt0) (trodAll_cons_mk (Below.trod laidOut (by kernel_rfl) (of_decide_eq_true (by kernel_rfl)) k1 bel lt1) trodAll_mk0)), rfl, bel.frame _, fun h => by cases h⟩
theorem over : Rows.ratioSumsRow.holds Try.pinned (OpenSpec.ofChange Rows.ratioSumsSpec) :=
  OpenClaim.holds_of_wide 7 Try.f7 rfl rfl rfl rfl rfl rfl rfl ⟨rfl, rfl, rfl, rfl, rfl⟩ rfl rfl rfl rfl rfl (by kernel_rfl) Try.func7 (by kernel_rfl)
    (of_decide_eq_true (by kernel_rfl)) (by unfold Func.isWrapper; first | (rw [if_pos (by decide +kernel)]; kernel_rfl) | (rw [if_neg (by decide +kernel)]; exact ⟨rfl, rfl⟩))
    (fun os started H enc _ => lifted os started H enc)
theorem proved : Rows.RatioSumsSaid := over
#print axioms proved
end Go.Proofs.Ytbfcmjaomkdpgaa.ratioSums
namespace Go.Proofs.Ytbfcmjaomkdpgaa
/-- The row, under a short name, for the claim. -/
theorem ratioSums_holds : Rows.RatioSumsSaid := ratioSums.proved
end Go.Proofs.Ytbfcmjaomkdpgaa
