/- The law BalanceAgain holds of the given program: the row, out of the walk. No conditions. -/
import Derived.Test.YtmmefkianpbghaaRows
import Derived.Test.YtmmefkianpbghaaWmBalanceAgain5
import Derived.WalkKit
import Derived.ProofKit
import Derived.OpenShut
import Derived.ShutString
import Derived.ChangeOld
import Derived.Below
import Derived.SizedLaws
namespace Go.Proofs.Ytmmefkianpbghaa.balanceAgain
open Go.ChangeShapes Go.WideShapes Go.ChangeAt Go.RowKit
open Go.ChangeMaps (open_string shut_string)
open Go.Proofs.Wk
set_option linter.unusedVariables false
theorem own : ownKnob Try.prog.godebug = none := by kernel_rfl
theorem laidOut : laidOutB Try.prog = true := by kernel_rfl
set_option maxHeartbeats 8000000 in
set_option maxRecDepth 100000 in
theorem lifted (os : Os) (started : os.Started) (H : Type) (enc : TypeId × Value → H) :
    ReturnsInHanded {} Try.checked os 4 .any (Rows.balanceAgainSpec.pre6 enc Try.prog Try.f4 Rows.balanceAgainRow.domain false) (Rows.balanceAgainSpec.post enc Try.prog Try.f4 false true false false) := by
  refine returnsInHanded_of_change_sized (C := Try.checked) own started (by kernel_rfl) Try.func4
    (ChangeSpec.witness6 (enc := enc) (C := Try.checked) false ⟨#[], #[.int .u32 0, .int .u32 0, .slice none 0 0], []⟩ 8 (by kernel_rfl) (by kernel_rfl) (by kernel_rfl) (by kernel_rfl)) ?_
  intro W base args ds gs before hval0 hW hcnd hsz0 _
  have hval : ∀ (j : Nat) t v, Try.f4.params[j]? = some t → args[j]? = some v → Value.okWide Try.prog W .any base t v := hval0
  have hW' := hW
  obtain ⟨p, q, hA0, hV, rfl, hfz, hnd⟩ := hW
  have hA : DataW.TrodAll enc Try.prog W 0 (fun _ => true) true Try.f4.params.toList args.toList ds p := hA0
  rw [Try.params4] at hA hval
  obtain ⟨v0, vs0, d0, ds0, p0, q0, hargs, rfl, rfl, h0, r0⟩ := trodAll_cons hA
  obtain ⟨v1, vs1, d1, ds1, p1, q1, rfl, rfl, rfl, h1, r1⟩ := trodAll_cons r0
  obtain ⟨v2, vs2, d2, ds2, p2, q2, rfl, rfl, rfl, h2, r2⟩ := trodAll_cons r1
  obtain ⟨rfl, rfl, rfl⟩ := trodAll_nil r2
  obtain rfl : args = #[v0, v1, v2] := by cases args; simp_all
  obtain ⟨rfl, rfl⟩ := trodVars_none hV
  obtain ⟨a0, rfl, rfl, rfl, w0⟩ := open_int Try.underlying46 (hval 0 46 v0 rfl rfl) h0
  obtain ⟨a1, rfl, rfl, rfl, w1⟩ := open_int Try.underlying46 (hval 1 46 v1 rfl rfl) h1
  have k2 := h2
  have lt2 : ∀ x ∈ p2, x.block < W.heap.size := by obtain ⟨m, hm⟩ := k2; exact DataW.trod_lt m _ _ _ hm
  obtain ⟨x2, hK2, G2⟩ := opn_arg (opn_slice (sz := 2) Try.underlying23 (by kernel_rfl) (opn_struct2 (s0 := 1) (s1 := 1) Try.underlying42 (opn_slice (sz := 1) Try.underlying40 (by kernel_rfl) (opn_int Try.underlying46)) (opn_slice (sz := 1) Try.underlying40 (by kernel_rfl) (opn_int Try.underlying46)) rfl rfl (by kernel_rfl) (by kernel_rfl) (by kernel_rfl))) h2
  obtain ⟨a2, len2, cap2, rfl⟩ := okWide_slice Try.underlying23 (hval 2 23 v2 rfl rfl)
  obtain ⟨A2_0, c2_0, e2_, hr2_0⟩ := hK2
  injection e2_ with e2_ _
  injection e2_ with ea2_ en2_ ec2_
  subst ea2_; subst en2_; subst ec2_
  obtain ⟨vs, hvs, hR⟩ := weights hr2_0
  have hlen : vs.length = x2.length := by rw [← hvs, List.length_map]
  have ct := BalanceAgain_ct a0 a1 vs (a2, cap2) (weights_wf hvs G2) (bu32 w0) (bu32 w1)
  rw [show rsV vs (a2, cap2) = .slice a2 x2.length cap2 by show Value.slice _ vs.length _ = _; rw [hlen]] at ct
  refine (ct.row (fun w' k => rows_later pers_R k hR)).mono fun e W' ⟨⟨_, he, _⟩, bel⟩ => ?_
  subst he
  exact ⟨_, rfl, _, _, _, [], _, [], hW', trodAll_mk1 (shut_bool Try.underlying4 _), (trodAll_cons_mk (shut_int Try.underlying46 w0) (trodAll_cons_mk (shut_int Try.underlying46 w1) (trodAll_cons_mk (Below.trod laidOut (by kernel_rfl) (of_decide_eq_true (by kernel_rfl)) k2 bel lt2) trodAll_mk0))), rfl, bel.frame _, fun h => by cases h⟩
theorem over : Rows.balanceAgainRow.holds Try.pinned (OpenSpec.ofChange Rows.balanceAgainSpec) :=
  OpenClaim.holds_of_wide 4 Try.f4 rfl rfl rfl rfl rfl rfl rfl ⟨rfl, rfl, rfl, rfl, rfl⟩ rfl rfl rfl rfl rfl (by kernel_rfl) Try.func4 (by kernel_rfl)
    (of_decide_eq_true (by kernel_rfl)) (by unfold Func.isWrapper; first | (rw [if_pos (by decide +kernel)]; kernel_rfl) | (rw [if_neg (by decide +kernel)]; exact ⟨rfl, rfl⟩))
    (fun os started H enc _ => lifted os started H enc)
theorem proved : Rows.BalanceAgainSaid := over
#print axioms proved
end Go.Proofs.Ytmmefkianpbghaa.balanceAgain
namespace Go.Proofs.Ytmmefkianpbghaa
/-- The row, under a short name, for the claim. -/
theorem balanceAgain_holds : Rows.BalanceAgainSaid := balanceAgain.proved
end Go.Proofs.Ytmmefkianpbghaa
