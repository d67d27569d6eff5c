/- The law BalanceTurns holds of the given program: the row, out of the walk. No conditions. -/
import Derived.Test.YtmmefkianpbghaaGreatRows
import Derived.Test.YtmmefkianpbghaaGreatWmBalanceTurns6
import Derived.WalkKit
import Derived.ProofKit
import Derived.OpenShut
import Derived.ShutString
import Derived.ChangeOld
import Derived.Below
import Derived.SizedLaws
namespace Go.Proofs.YtmmefkianpbghaaGreat.balanceTurns
open Go.ChangeShapes Go.WideShapes Go.ChangeAt Go.RowKit
open Go.ChangeMaps (open_string shut_string)
open Go.Proofs.Wk
set_option linter.unusedVariables false
theorem own : ownKnob Tryz.prog.godebug = none := by kernel_rfl
theorem laidOut : laidOutB Tryz.prog = true := by kernel_rfl
set_option maxHeartbeats 8000000 in
set_option maxRecDepth 100000 in
theorem lifted (os : Os) (started : os.Started) (H : Type) (enc : TypeId × Value → H) :
    ReturnsInHanded {} Tryz.checked os 3 .any (Rows.balanceTurnsSpec.pre6 enc Tryz.prog Tryz.f3 Rows.balanceTurnsRow.domain false) (Rows.balanceTurnsSpec.post enc Tryz.prog Tryz.f3 false true false false) := by
  refine returnsInHanded_of_change_sized (C := Tryz.checked) own started (by kernel_rfl) Tryz.func3
    (ChangeSpec.witness6 (enc := enc) (C := Tryz.checked) false ⟨#[], #[.int .u64 0, .slice none 0 0], []⟩ 8 (by kernel_rfl) (by kernel_rfl) (by kernel_rfl) (by kernel_rfl)) ?_
  intro W base args ds gs before hval0 hW hcnd hsz0 _
  have hval : ∀ (j : Nat) t v, Tryz.f3.params[j]? = some t → args[j]? = some v → Value.okWide Tryz.prog W .any base t v := hval0
  have hW' := hW
  obtain ⟨p, q, hA0, hV, rfl, hfz, hnd⟩ := hW
  have hA : DataW.TrodAll enc Tryz.prog W 0 (fun _ => true) true Tryz.f3.params.toList args.toList ds p := hA0
  rw [Tryz.params3] at hA hval
  obtain ⟨v0, vs0, d0, ds0, p0, q0, hargs, rfl, rfl, h0, r0⟩ := trodAll_cons hA
  obtain ⟨v1, vs1, d1, ds1, p1, q1, rfl, rfl, rfl, h1, r1⟩ := trodAll_cons r0
  obtain ⟨rfl, rfl, rfl⟩ := trodAll_nil r1
  obtain rfl : args = #[v0, v1] := by cases args; simp_all
  obtain ⟨rfl, rfl⟩ := trodVars_none hV
  obtain ⟨a0, rfl, rfl, rfl, w0⟩ := open_int Tryz.underlying22 (hval 0 22 v0 rfl rfl) h0
  have k1 := h1
  have lt1 : ∀ x ∈ p1, x.block < W.heap.size := by obtain ⟨m, hm⟩ := k1; exact DataW.trod_lt m _ _ _ hm
  obtain ⟨x1, hK1, G1⟩ := opn_arg (opn_slice (sz := 2) Tryz.underlying23 (by kernel_rfl) (opn_struct2 (s0 := 1) (s1 := 1) Tryz.underlying40 (opn_slice (sz := 1) Tryz.underlying38 (by kernel_rfl) (opn_int Tryz.underlying81)) (opn_slice (sz := 1) Tryz.underlying38 (by kernel_rfl) (opn_int Tryz.underlying81)) rfl rfl (by kernel_rfl) (by kernel_rfl) (by kernel_rfl))) h1
  obtain ⟨a1, len1, cap1, rfl⟩ := okWide_slice Tryz.underlying23 (hval 1 23 v1 rfl rfl)
  obtain ⟨A1_0, c1_0, e1_, hr1_0⟩ := hK1
  injection e1_ with e1_ _
  injection e1_ with ea1_ en1_ ec1_
  subst ea1_; subst en1_; subst ec1_
  obtain ⟨vs, hvs, hR⟩ := weights hr1_0
  have hlen : vs.length = x1.length := by rw [← hvs, List.length_map]
  have ct := BalanceTurns_ct a0 vs (a1, cap1) (weights_wf hvs G1) (bu64 w0)
  rw [show rsV vs (a1, cap1) = .slice a1 x1.length cap1 by show Value.slice _ vs.length _ = _; rw [hlen]] at ct
  refine (ct.row (fun w' k => rows_later pers_R k hR)).mono fun e W' ⟨⟨_, he, _⟩, bel⟩ => ?_
  subst he
  exact ⟨_, rfl, _, _, _, [], _, [], hW', trodAll_mk1 (shut_bool Tryz.underlying4 _), (trodAll_cons_mk (shut_int Tryz.underlying22 w0) (trodAll_cons_mk (Below.trod laidOut (by kernel_rfl) (of_decide_eq_true (by kernel_rfl)) k1 bel lt1) trodAll_mk0)), rfl, bel.frame _, fun h => by cases h⟩
theorem over : Rows.balanceTurnsRow.holds Tryz.pinned (OpenSpec.ofChange Rows.balanceTurnsSpec) :=
  OpenClaim.holds_of_wide 3 Tryz.f3 rfl rfl rfl rfl rfl rfl rfl ⟨rfl, rfl, rfl, rfl, rfl⟩ rfl rfl rfl rfl rfl (by kernel_rfl) Tryz.func3 (by kernel_rfl)
    (of_decide_eq_true (by kernel_rfl)) (by unfold Func.isWrapper; first | (rw [if_pos (by decide +kernel)]; kernel_rfl) | (rw [if_neg (by decide +kernel)]; exact ⟨rfl, rfl⟩))
    (fun os started H enc _ => lifted os started H enc)
theorem proved : Rows.BalanceTurnsSaid := over
#print axioms proved
end Go.Proofs.YtmmefkianpbghaaGreat.balanceTurns
namespace Go.Proofs.YtmmefkianpbghaaGreat
/-- The row, under a short name, for the claim. -/
theorem balanceTurns_holds : Rows.BalanceTurnsSaid := balanceTurns.proved
end Go.Proofs.YtmmefkianpbghaaGreat
