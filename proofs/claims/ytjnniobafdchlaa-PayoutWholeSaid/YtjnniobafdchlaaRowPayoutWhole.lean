/- The law PayoutWhole holds of the given program: the row, out of the walk. No conditions. -/
import Derived.Test.YtjnniobafdchlaaRows
import Derived.Test.YtjnniobafdchlaaWmPayoutWhole5
import Derived.WalkKit
import Derived.ProofKit
import Derived.OpenShut
import Derived.ShutString
import Derived.ChangeOld
import Derived.Below
import Derived.SizedLaws
namespace Go.Proofs.Ytjnniobafdchlaa.payoutWhole
open Go.ChangeShapes Go.WideShapes Go.ChangeAt Go.RowKit
open Go.ChangeMaps (open_string shut_string)
open Go.Proofs.Wk
set_option linter.unusedVariables false
theorem own : ownKnob Try.prog.godebug = none := by kernel_rfl
theorem laidOut : laidOutB Try.prog = true := by kernel_rfl
set_option maxHeartbeats 8000000 in
set_option maxRecDepth 100000 in
theorem lifted (os : Os) (started : os.Started) (H : Type) (enc : TypeId × Value → H) :
    ReturnsInHanded {} Try.checked os 4 .any (Rows.payoutWholeSpec.pre6 enc Try.prog Try.f4 Rows.payoutWholeRow.domain false) (Rows.payoutWholeSpec.post enc Try.prog Try.f4 false true false false) := by
  refine returnsInHanded_of_change_sized (C := Try.checked) own started (by kernel_rfl) Try.func4
    (ChangeSpec.witness6 (enc := enc) (C := Try.checked) false ⟨#[], #[.int .u64 0, .slice none 0 0, .slice none 0 0, .int .u8 0, .int .u8 0], []⟩ 8 (by kernel_rfl) (by kernel_rfl) (by kernel_rfl) (by kernel_rfl)) ?_
  intro W base args ds gs before hval0 hW hcnd hsz0 _
  have hval : ∀ (j : Nat) t v, Try.f4.params[j]? = some t → args[j]? = some v → Value.okWide Try.prog W .any base t v := hval0
  have hW' := hW
  obtain ⟨p, q, hA0, hV, rfl, hfz, hnd⟩ := hW
  have hA : DataW.TrodAll enc Try.prog W 0 (fun _ => true) true Try.f4.params.toList args.toList ds p := hA0
  rw [Try.params4] at hA hval
  obtain ⟨v0, vs0, d0, ds0, p0, q0, hargs, rfl, rfl, h0, r0⟩ := trodAll_cons hA
  obtain ⟨v1, vs1, d1, ds1, p1, q1, rfl, rfl, rfl, h1, r1⟩ := trodAll_cons r0
  obtain ⟨v2, vs2, d2, ds2, p2, q2, rfl, rfl, rfl, h2, r2⟩ := trodAll_cons r1
  obtain ⟨v3, vs3, d3, ds3, p3, q3, rfl, rfl, rfl, h3, r3⟩ := trodAll_cons r2
  obtain ⟨v4, vs4, d4, ds4, p4, q4, rfl, rfl, rfl, h4, r4⟩ := trodAll_cons r3
  obtain ⟨rfl, rfl, rfl⟩ := trodAll_nil r4
  obtain rfl : args = #[v0, v1, v2, v3, v4] := by cases args; simp_all
  obtain ⟨rfl, rfl⟩ := trodVars_none hV
  obtain ⟨a0, rfl, rfl, rfl, w0⟩ := open_int Try.underlying22 (hval 0 22 v0 rfl rfl) h0
  have k1 := h1
  have lt1 : ∀ x ∈ p1, x.block < W.heap.size := by obtain ⟨m, hm⟩ := k1; exact DataW.trod_lt m _ _ _ hm
  obtain ⟨x1, hK1, G1⟩ := opn_arg (opn_slice (sz := 4) Try.underlying28 (by kernel_rfl) (opn_struct4 (z0 := 1) (z1 := 1) (z2 := 1) (z3 := 1) Try.underlying25 (opn_int Try.underlying3) (opn_int Try.underlying22) (opn_int Try.underlying22) (opn_slice (sz := 2) Try.underlying23 (by kernel_rfl) (opn_struct2 (s0 := 1) (s1 := 1) Try.underlying44 (opn_int Try.underlying3) (opn_int Try.underlying22) rfl rfl (by kernel_rfl) (by kernel_rfl) (by kernel_rfl))) rfl rfl rfl rfl (by kernel_rfl) (by kernel_rfl) (by kernel_rfl) (by kernel_rfl) (by kernel_rfl))) h1
  obtain ⟨a1, len1, cap1, rfl⟩ := okWide_slice Try.underlying28 (hval 1 28 v1 rfl rfl)
  obtain ⟨A1_0, c1_0, e1_, hr1_0⟩ := hK1
  injection e1_ with e1_ _
  injection e1_ with ea1_ en1_ ec1_
  subst ea1_; subst en1_; subst ec1_
  have k2 := h2
  have lt2 : ∀ x ∈ p2, x.block < W.heap.size := by obtain ⟨m, hm⟩ := k2; exact DataW.trod_lt m _ _ _ hm
  obtain ⟨x2, hK2, G2⟩ := opn_arg (opn_slice (sz := 1) Try.underlying35 (by kernel_rfl) (opn_int Try.underlying22)) h2
  obtain ⟨a2, len2, cap2, rfl⟩ := okWide_slice Try.underlying35 (hval 2 35 v2 rfl rfl)
  obtain ⟨A2_0, c2_0, e2_, hr2_0⟩ := hK2
  injection e2_ with e2_ _
  injection e2_ with ea2_ en2_ ec2_
  subst ea2_; subst en2_; subst ec2_
  obtain ⟨a3, rfl, rfl, rfl, w3⟩ := open_int Try.underlying5 (hval 3 5 v3 rfl rfl) h3
  obtain ⟨a4, rfl, rfl, rfl, w4⟩ := open_int Try.underlying5 (hval 4 5 v4 rfl rfl) h4
  have b3 : 0 ≤ a3 ∧ a3 ≤ 255 := by have h := w3; simp [Lit.wf, IntKind.min, IntKind.max, IntKind.signed, IntKind.bits] at h; omega
  have b4 : 0 ≤ a4 ∧ a4 ≤ 255 := by have h := w4; simp [Lit.wf, IntKind.min, IntKind.max, IntKind.signed, IntKind.bits] at h; omega
  obtain ⟨xs, hxs, hX⟩ := exposures hr1_0
  have hlen : xs.length = x1.length := by rw [← hxs, List.length_map]
  have ct := PayoutWhole_ct a0 xs (a1, cap1) x2 (a2, cap2) a3 a4 (bu64 w0) (exposures_wf hxs G1) (fun p hp => bu64 (G2 p hp)) b3 b4
  rw [show xsV xs (a1, cap1) = .slice a1 x1.length cap1 by show Value.slice _ xs.length _ = _; rw [hlen]] at ct
  refine (ct.row (fun w' k => ⟨rows_later pers_X k hX, rows_later (pers_int _) k hr2_0⟩)).mono fun e W' ⟨⟨_, he, _⟩, bel⟩ => ?_
  subst he
  exact ⟨_, rfl, _, _, _, [], _, [], hW', trodAll_mk1 (shut_bool Try.underlying4 _), (trodAll_cons_mk (shut_int Try.underlying22 w0) (trodAll_cons_mk (Below.trod laidOut (by kernel_rfl) (of_decide_eq_true (by kernel_rfl)) k1 bel lt1) (trodAll_cons_mk (Below.trod laidOut (by kernel_rfl) (of_decide_eq_true (by kernel_rfl)) k2 bel lt2) (trodAll_cons_mk (shut_int Try.underlying5 w3) (trodAll_cons_mk (shut_int Try.underlying5 w4) trodAll_mk0))))), rfl, bel.frame _, fun h => by cases h⟩
theorem over : Rows.payoutWholeRow.holds Try.pinned (OpenSpec.ofChange Rows.payoutWholeSpec) :=
  OpenClaim.holds_of_wide 4 Try.f4 rfl rfl rfl rfl rfl rfl rfl ⟨rfl, rfl, rfl, rfl, rfl⟩ rfl rfl rfl rfl rfl (by kernel_rfl) Try.func4 (by kernel_rfl)
    (of_decide_eq_true (by kernel_rfl)) (by unfold Func.isWrapper; first | (rw [if_pos (by decide +kernel)]; kernel_rfl) | (rw [if_neg (by decide +kernel)]; exact ⟨rfl, rfl⟩))
    (fun os started H enc _ => lifted os started H enc)
theorem proved : Rows.PayoutWholeSaid := over
#print axioms proved
end Go.Proofs.Ytjnniobafdchlaa.payoutWhole
namespace Go.Proofs.Ytjnniobafdchlaa
/-- The row, under a short name, for the claim. -/
theorem payoutWhole_holds : Rows.PayoutWholeSaid := payoutWhole.proved
end Go.Proofs.Ytjnniobafdchlaa
