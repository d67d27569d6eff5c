/- The law PhragmenRises holds of the given program: the row, out of the walk. No conditions. -/
import Derived.Test.YtphmegjmmjmbeaaRows
import Derived.Test.YtphmegjmmjmbeaaWmPhragmenRises5
import Derived.WalkKit
import Derived.ProofKit
import Derived.OpenShut
import Derived.ShutString
import Derived.ChangeOld
import Derived.Below
import Derived.SizedLaws
namespace Go.Proofs.Ytphmegjmmjmbeaa.phragmenRises
open Go.ChangeShapes Go.WideShapes Go.ChangeAt Go.RowKit
open Go.ChangeMaps (open_string shut_string)
open Go.Proofs.Wk
set_option linter.unusedVariables false
theorem own : ownKnob Try.prog.godebug = none := by kernel_rfl
theorem laidOut : laidOutB Try.prog = true := by kernel_rfl
set_option maxHeartbeats 8000000 in
set_option maxRecDepth 100000 in
theorem lifted (os : Os) (started : os.Started) (H : Type) (enc : TypeId × Value → H) :
    ReturnsInHanded {} Try.checked os 6 .any (Rows.phragmenRisesSpec.pre6 enc Try.prog Try.f6 Rows.phragmenRisesRow.domain false) (Rows.phragmenRisesSpec.post enc Try.prog Try.f6 false true false false) := by
  refine returnsInHanded_of_change_sized (C := Try.checked) own started (by kernel_rfl) Try.func6
    (ChangeSpec.witness6 (enc := enc) (C := Try.checked) false ⟨#[], #[.agg #[.slice none 0 0, .slice none 0 0], .int .u8 0], []⟩ 8 (by kernel_rfl) (by kernel_rfl) (by kernel_rfl) (by kernel_rfl)) ?_
  intro W base args ds gs before hval0 hW hcnd hsz0 _
  have hval : ∀ (j : Nat) t v, Try.f6.params[j]? = some t → args[j]? = some v → Value.okWide Try.prog W .any base t v := hval0
  have hW' := hW
  obtain ⟨p, q, hA0, hV, rfl, hfz, hnd⟩ := hW
  have hA : DataW.TrodAll enc Try.prog W 0 (fun _ => true) true Try.f6.params.toList args.toList ds p := hA0
  rw [Try.params6] at hA hval
  obtain ⟨v0, vs0, d0, ds0, p0, q0, hargs, rfl, rfl, h0, r0⟩ := trodAll_cons hA
  obtain ⟨v1, vs1, d1, ds1, p1, q1, rfl, rfl, rfl, h1, r1⟩ := trodAll_cons r0
  obtain ⟨rfl, rfl, rfl⟩ := trodAll_nil r1
  obtain rfl : args = #[v0, v1] := by cases args; simp_all
  obtain ⟨rfl, rfl⟩ := trodVars_none hV
  have k0 := h0
  have lt0 : ∀ x ∈ p0, x.block < W.heap.size := by obtain ⟨m, hm⟩ := k0; exact DataW.trod_lt m _ _ _ hm
  obtain ⟨x0, hK0, G0⟩ := opn_arg (opn_struct2 (s0 := 1) (s1 := 1) Try.underlying25 (opn_slice (sz := 3) Try.underlying22 (by kernel_rfl) (opn_struct3 (z0 := 1) (z1 := 1) (z2 := 1) Try.underlying44 (opn_int Try.underlying3) (opn_int Try.underlying42) (opn_slice (sz := 1) Try.underlying23 (by kernel_rfl) (opn_int Try.underlying3)) rfl rfl rfl (by kernel_rfl) (by kernel_rfl) (by kernel_rfl) (by kernel_rfl))) (opn_slice (sz := 1) Try.underlying23 (by kernel_rfl) (opn_int Try.underlying3)) rfl rfl (by kernel_rfl) (by kernel_rfl) (by kernel_rfl)) h0
  obtain ⟨cs0, rfl⟩ := okw_agg Try.underlying25 (hval 0 25 v0 rfl rfl)
  obtain ⟨_, _, e0_, ⟨A0_0, c0_0, rfl, hr0_0⟩, ⟨A0_1, c0_1, rfl, hr0_1⟩⟩ := hK0
  obtain rfl : cs0 = #[.slice A0_0 x0.1.length c0_0, .slice A0_1 x0.2.length c0_1] := by cases cs0; simpa [Value.cells] using e0_
  obtain ⟨a1, rfl, rfl, rfl, w1⟩ := open_int Try.underlying5 (hval 1 5 v1 rfl rfl) h1
  have b1 : 0 ≤ a1 ∧ a1 ≤ 255 := by have h := w1; simp [Lit.wf, IntKind.min, IntKind.max, IntKind.signed, IntKind.bits] at h; omega
  obtain ⟨vs, hvs, hR⟩ := voters hr0_0
  have hlen : vs.length = x0.1.length := by rw [← hvs, List.length_map]
  have ct := PhragmenRises_ct ⟨vs, (A0_0, c0_0), x0.2, (A0_1, c0_1)⟩ (voters_wf hvs G0.1) a1 b1
  rw [show snV ⟨vs, (A0_0, c0_0), x0.2, (A0_1, c0_1)⟩ = .agg #[.slice A0_0 x0.1.length c0_0, .slice A0_1 x0.2.length c0_1] by show Value.agg #[.slice _ vs.length _, _] = _; rw [hlen]] at ct
  refine (ct.row (fun w' k => ⟨rows_later pers_V k hR, rows_later (pers_int _) k hr0_1⟩)).mono fun e W' ⟨⟨_, he, _⟩, bel⟩ => ?_
  subst he
  exact ⟨_, rfl, _, _, _, [], _, [], hW', trodAll_mk1 (shut_bool Try.underlying4 _), (trodAll_cons_mk (Below.trod laidOut (by kernel_rfl) (of_decide_eq_true (by kernel_rfl)) k0 bel lt0) (trodAll_cons_mk (shut_int Try.underlying5 w1) trodAll_mk0)), rfl, bel.frame _, fun h => by cases h⟩
theorem over : Rows.phragmenRisesRow.holds Try.pinned (OpenSpec.ofChange Rows.phragmenRisesSpec) :=
  OpenClaim.holds_of_wide 6 Try.f6 rfl rfl rfl rfl rfl rfl rfl ⟨rfl, rfl, rfl, rfl, rfl⟩ rfl rfl rfl rfl rfl (by kernel_rfl) Try.func6 (by kernel_rfl)
    (of_decide_eq_true (by kernel_rfl)) (by unfold Func.isWrapper; first | (rw [if_pos (by decide +kernel)]; kernel_rfl) | (rw [if_neg (by decide +kernel)]; exact ⟨rfl, rfl⟩))
    (fun os started H enc _ => lifted os started H enc)
theorem proved : Rows.PhragmenRisesSaid := over
#print axioms proved
end Go.Proofs.Ytphmegjmmjmbeaa.phragmenRises
namespace Go.Proofs.Ytphmegjmmjmbeaa
/-- The row, under a short name, for the claim. -/
theorem phragmenRises_holds : Rows.PhragmenRisesSaid := phragmenRises.proved
end Go.Proofs.Ytphmegjmmjmbeaa
