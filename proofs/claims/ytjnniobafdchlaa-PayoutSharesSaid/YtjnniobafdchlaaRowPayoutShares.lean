/- The law PayoutShares holds of the given program: the row, out of the walk. No conditions. -/
import Derived.Test.YtjnniobafdchlaaRows
import Derived.Test.YtjnniobafdchlaaWmPayoutShares5
import Derived.WalkKit
import Derived.ProofKit
import Derived.OpenShut
import Derived.ShutString
import Derived.ChangeOld
import Derived.Below
import Derived.SizedLaws
namespace Go.Proofs.Ytjnniobafdchlaa.payoutShares
open Go.ChangeShapes Go.WideShapes Go.ChangeAt Go.RowKit
open Go.ChangeMaps (open_string shut_string)
open Go.Proofs.Wk
set_option linter.unusedVariables false
theorem own : ownKnob Try.prog.godebug = none := by kernel_rfl
theorem laidOut : laidOutB Try.prog = true := by kernel_rfl
set_option maxHeartbeats 8000000 in
set_option maxRecDepth 100000 in
theorem lifted (os : Os) (started : os.Started) (H : Type) (enc : TypeId × Value → H) :
    ReturnsInHanded {} Try.checked os 3 .any (Rows.payoutSharesSpec.pre6 enc Try.prog Try.f3 Rows.payoutSharesRow.domain false) (Rows.payoutSharesSpec.post enc Try.prog Try.f3 false true false false) := by
  refine returnsInHanded_of_change_sized (C := Try.checked) own started (by kernel_rfl) Try.func3
    (ChangeSpec.witness6 (enc := enc) (C := Try.checked) false ⟨#[], #[.int .u64 0, .agg #[.int .i64 0, .int .u64 0, .int .u64 0, .slice none 0 0], .int .u8 0], []⟩ 8 (by kernel_rfl) (by kernel_rfl) (by kernel_rfl) (by kernel_rfl)) ?_
  intro W base args ds gs before hval0 hW hcnd hsz0 _
  have hval : ∀ (j : Nat) t v, Try.f3.params[j]? = some t → args[j]? = some v → Value.okWide Try.prog W .any base t v := hval0
  have hW' := hW
  obtain ⟨p, q, hA0, hV, rfl, hfz, hnd⟩ := hW
  have hA : DataW.TrodAll enc Try.prog W 0 (fun _ => true) true Try.f3.params.toList args.toList ds p := hA0
  rw [Try.params3] at hA hval
  obtain ⟨v0, vs0, d0, ds0, p0, q0, hargs, rfl, rfl, h0, r0⟩ := trodAll_cons hA
  obtain ⟨v1, vs1, d1, ds1, p1, q1, rfl, rfl, rfl, h1, r1⟩ := trodAll_cons r0
  obtain ⟨v2, vs2, d2, ds2, p2, q2, rfl, rfl, rfl, h2, r2⟩ := trodAll_cons r1
  obtain ⟨rfl, rfl, rfl⟩ := trodAll_nil r2
  obtain rfl : args = #[v0, v1, v2] := by cases args; simp_all
  obtain ⟨rfl, rfl⟩ := trodVars_none hV
  obtain ⟨a0, rfl, rfl, rfl, w0⟩ := open_int Try.underlying22 (hval 0 22 v0 rfl rfl) h0
  have k1 := h1
  have lt1 : ∀ x ∈ p1, x.block < W.heap.size := by obtain ⟨m, hm⟩ := k1; exact DataW.trod_lt m _ _ _ hm
  obtain ⟨x1, hK1, G1⟩ := opn_arg (opn_struct4 (z0 := 1) (z1 := 1) (z2 := 1) (z3 := 1) Try.underlying25 (opn_int Try.underlying3) (opn_int Try.underlying22) (opn_int Try.underlying22) (opn_slice (sz := 2) Try.underlying23 (by kernel_rfl) (opn_struct2 (s0 := 1) (s1 := 1) Try.underlying44 (opn_int Try.underlying3) (opn_int Try.underlying22) rfl rfl (by kernel_rfl) (by kernel_rfl) (by kernel_rfl))) rfl rfl rfl rfl (by kernel_rfl) (by kernel_rfl) (by kernel_rfl) (by kernel_rfl) (by kernel_rfl)) h1
  obtain ⟨cs1, rfl⟩ := okw_agg Try.underlying25 (hval 1 25 v1 rfl rfl)
  obtain ⟨_, _, e1_, rfl, ⟨_, _, rfl, rfl, ⟨_, _, rfl, rfl, ⟨A1_0, c1_0, rfl, hr1_0⟩⟩⟩⟩ := hK1
  obtain rfl : cs1 = #[.int .i64 x1.1, .int .u64 x1.2.1, .int .u64 x1.2.2.1, .slice A1_0 x1.2.2.2.length c1_0] := by cases cs1; simpa [Value.cells] using e1_
  obtain ⟨a2, rfl, rfl, rfl, w2⟩ := open_int Try.underlying5 (hval 2 5 v2 rfl rfl) h2
  have b2 : 0 ≤ a2 ∧ a2 ≤ 255 := by have h := w2; simp [Lit.wf, IntKind.min, IntKind.max, IntKind.signed, IntKind.bits] at h; omega
  refine (PayoutShares_ct a0 ⟨x1.1, x1.2.1, x1.2.2.1, x1.2.2.2, (A1_0, c1_0)⟩ a2 (bu64 w0) ⟨bu64 G1.2.1, bu64 G1.2.2.1, fun p hp => bu64 (G1.2.2.2 p hp).2⟩ b2 |>.row (fun w' k => rows_later pers_PS k (parts hr1_0))).mono fun e W' ⟨⟨_, he, _⟩, bel⟩ => ?_
  subst he
  exact ⟨_, rfl, _, _, _, [], _, [], hW', trodAll_mk1 (shut_bool Try.underlying4 _), (trodAll_cons_mk (shut_int Try.underlying22 w0) (trodAll_cons_mk (Below.trod laidOut (by kernel_rfl) (of_decide_eq_true (by kernel_rfl)) k1 bel lt1) (trodAll_cons_mk (shut_int Try.underlying5 w2) trodAll_mk0))), rfl, bel.frame _, fun h => by cases h⟩
theorem over : Rows.payoutSharesRow.holds Try.pinned (OpenSpec.ofChange Rows.payoutSharesSpec) :=
  OpenClaim.holds_of_wide 3 Try.f3 rfl rfl rfl rfl rfl rfl rfl ⟨rfl, rfl, rfl, rfl, rfl⟩ rfl rfl rfl rfl rfl (by kernel_rfl) Try.func3 (by kernel_rfl)
    (of_decide_eq_true (by kernel_rfl)) (by unfold Func.isWrapper; first | (rw [if_pos (by decide +kernel)]; kernel_rfl) | (rw [if_neg (by decide +kernel)]; exact ⟨rfl, rfl⟩))
    (fun os started H enc _ => lifted os started H enc)
theorem proved : Rows.PayoutSharesSaid := over
#print axioms proved
end Go.Proofs.Ytjnniobafdchlaa.payoutShares
namespace Go.Proofs.Ytjnniobafdchlaa
/-- The row, under a short name, for the claim. -/
theorem payoutShares_holds : Rows.PayoutSharesSaid := payoutShares.proved
end Go.Proofs.Ytjnniobafdchlaa
