/- The law RatioForms holds of the given program: the row, out of the pure statement and the walk. No conditions. -/
import Derived.Test.YtbfcmjaomkdpgaaRows
import Derived.Test.YtbfcmjaomkdpgaaPRatioFormsx
import Derived.Test.YtbfcmjaomkdpgaaPureRatioForms
import Derived.Test.YtbfcmjaomkdpgaaMyOpenRatioForms
import Derived.WalkKit
import Derived.ProofKit
import Derived.OpenShut
import Derived.ShutString
import Derived.ChangeOld
import Derived.Below
import Derived.SizedLaws
namespace Go.Proofs.Ytbfcmjaomkdpgaa.ratioForms
open Go.ChangeShapes Go.WideShapes Go.ChangeAt Go.RowKit
open Go.ChangeMaps (open_string shut_string)
open Go.Proofs.YtbfcmjaomkdpgaaW.PrintWords Go.Proofs.YtbfcmjaomkdpgaaW.PrintLast Go.Proofs.YtbfcmjaomkdpgaaW.PrintMore
set_option linter.unusedVariables false
theorem own : ownKnob Try.prog.godebug = none := by kernel_rfl
theorem laidOut : laidOutB Try.prog = true := by kernel_rfl
set_option maxRecDepth 100000 in
theorem lifted (os : Os) (started : os.Started) (H : Type) (enc : TypeId × Value → H) :
    ReturnsInHanded {} Try.checked os 4 .any (Rows.ratioFormsSpec.pre6 enc Try.prog Try.f4 Rows.ratioFormsRow.domain false) (Rows.ratioFormsSpec.post enc Try.prog Try.f4 false true false false) := by
  refine returnsInHanded_of_change_sized (C := Try.checked) own started (by kernel_rfl) Try.func4
    (ChangeSpec.witness6 (enc := enc) (C := Try.checked) false ⟨#[], #[.agg #[.slice none 0 0, .slice none 0 0], .int .u64 0, .int .u64 0], []⟩ 8 (by kernel_rfl) (by kernel_rfl) (by kernel_rfl) (by kernel_rfl)) ?_
  intro W base args ds gs before hval0 hW hcnd hsz0 _
  have hval : ∀ (j : Nat) t v, Try.f4.params[j]? = some t → args[j]? = some v → Value.okWide Try.prog W .any base t v := hval0
  have hW' := hW
  obtain ⟨p, q, hA0, hV, rfl, hfz, hnd⟩ := hW
  have hA : DataW.TrodAll enc Try.prog W 0 (fun _ => true) true Try.f4.params.toList args.toList ds p := hA0
  rw [Try.params4] at hA hval
  obtain ⟨v0, vs0, d0, ds0, p0, q0, hargs, rfl, rfl, h0, r0⟩ := trodAll_cons hA
  obtain ⟨v1, vs1, d1, ds1, p1, q1, rfl, rfl, rfl, h1, r1⟩ := trodAll_cons r0
  obtain ⟨v2, vs2, d2, ds2, p2, q2, rfl, rfl, rfl, h2, r2⟩ := trodAll_cons r1
  obtain ⟨rfl, rfl, rfl⟩ := trodAll_nil r2
  obtain rfl : args = #[v0, v1, v2] := by cases args; simp_all
  obtain ⟨rfl, rfl⟩ := trodVars_none hV
  have k0 := h0
  have lt0 : ∀ x ∈ p0, x.block < W.heap.size := by obtain ⟨m, hm⟩ := k0; exact DataW.trod_lt m _ _ _ hm
  obtain ⟨x0, hK0, G0⟩ := opens_arg (opens_iso (fun x : PRatioForms.S39 => (x.f0, x.f1)) (fun a => ⟨a.1, a.2⟩) (fun _ => rfl) (opens_struct2 Try.underlying39 (opens_slice Try.underlying37 (by kernel_rfl) (opens_int Try.underlying64)) (opens_slice Try.underlying37 (by kernel_rfl) (opens_int Try.underlying64)) rfl rfl (by kernel_rfl) (by kernel_rfl) (by kernel_rfl))) h0
  obtain ⟨cs0, rfl⟩ := okWide_agg Try.underlying39 (hval 0 39 v0 rfl rfl)
  obtain ⟨_, _, e0_, ⟨A0_0, c0_0, rfl, hl0_0, hr0_0⟩, ⟨A0_1, c0_1, rfl, hl0_1, hr0_1⟩⟩ := hK0
  obtain rfl : cs0 = #[.slice A0_0 x0.f0.length c0_0, .slice A0_1 x0.f1.length c0_1] := by cases cs0; simpa [Value.cells] using e0_
  obtain ⟨a1, rfl, rfl, rfl, w1⟩ := open_int Try.underlying29 (hval 1 29 v1 rfl rfl) h1
  obtain ⟨a2, rfl, rfl, rfl, w2⟩ := open_int Try.underlying29 (hval 2 29 v2 rfl rfl) h2
  clear hA0 hval0 hsz0
  have b1 := LRatioForms.bu64 w1
  have b2 := LRatioForms.bu64 w2
  obtain ⟨k, hk⟩ := Pure.RatioForms (a := x0.f0) (b := x0.f1) (fun x hx => LRatioForms.bu32 (G0.1 x hx)) (fun x hx => LRatioForms.bu32 (G0.2 x hx)) b1.1 b1.2 b2.1 b2.2
  refine (PRatioForms.psephoslaw02_RatioForms.calls k (fun _ => True) _ _ x0.f0 (fun _ => True) _ _ x0.f1 a1 a2 true W (Kd.V_mk hl0_0 (F_all hr0_0)) (Kd.V_mk hl0_1 (F_all hr0_1)) hk).mono fun e W' ⟨he, bel⟩ => ?_
  subst he
  exact ⟨_, rfl, _, _, _, [], _, [], hW', trodAll_mk1 (shut_bool Try.underlying4 _), (trodAll_cons_mk (Below.trod laidOut (by kernel_rfl) (of_decide_eq_true (by kernel_rfl)) k0 bel lt0) (trodAll_cons_mk (shut_int Try.underlying29 w1) (trodAll_cons_mk (shut_int Try.underlying29 w2) trodAll_mk0))), rfl, bel.frame _, fun h => by cases h⟩
theorem over : Rows.ratioFormsRow.holds Try.pinned (OpenSpec.ofChange Rows.ratioFormsSpec) :=
  OpenClaim.holds_of_wide 4 Try.f4 rfl rfl rfl rfl rfl rfl rfl ⟨rfl, rfl, rfl, rfl, rfl⟩ rfl rfl rfl rfl rfl (by kernel_rfl) Try.func4 (by kernel_rfl)
    (of_decide_eq_true (by kernel_rfl)) (by unfold Func.isWrapper; first | (rw [if_pos (by decide +kernel)]; kernel_rfl) | (rw [if_neg (by decide +kernel)]; exact ⟨rfl, rfl⟩))
    (fun os started H enc _ => lifted os started H enc)
theorem proved : Rows.RatioFormsSaid := over
#print axioms proved
end Go.Proofs.Ytbfcmjaomkdpgaa.ratioForms
namespace Go.Proofs.Ytbfcmjaomkdpgaa
/-- The row, under a short name, for the claim. -/
theorem ratioForms_holds : Rows.RatioFormsSaid := ratioForms.proved
end Go.Proofs.Ytbfcmjaomkdpgaa
