/- The law PayoutPlays holds of the given program: the row, out of the walk. No conditions. -/
import Derived.Test.YtjnniobafdchlaaGreatRows
import Derived.Test.YtjnniobafdchlaaGreatWmPayoutPlays6
import Derived.WalkKit
import Derived.ProofKit
import Derived.OpenShut
import Derived.ShutString
import Derived.ChangeOld
import Derived.Below
import Derived.SizedLaws
namespace Go.Proofs.YtjnniobafdchlaaGreat.payoutPlays
open Go.ChangeShapes Go.WideShapes Go.ChangeAt Go.RowKit
open Go.ChangeMaps (open_string shut_string)
open Go.Proofs.Wk
set_option linter.unusedVariables false
theorem own : ownKnob Tryz.prog.godebug = none := by kernel_rfl
theorem laidOut : laidOutB Tryz.prog = true := by kernel_rfl
set_option maxHeartbeats 8000000 in
set_option maxRecDepth 100000 in
theorem lifted (os : Os) (started : os.Started) (H : Type) (enc : TypeId × Value → H) :
    ReturnsInHanded {} Tryz.checked os 3 .any (Rows.payoutPlaysSpec.pre6 enc Tryz.prog Tryz.f3 Rows.payoutPlaysRow.domain false) (Rows.payoutPlaysSpec.post enc Tryz.prog Tryz.f3 false true false false) := by
  refine returnsInHanded_of_change_sized (C := Tryz.checked) own started (by kernel_rfl) Tryz.func3
    (ChangeSpec.witness6 (enc := enc) (C := Tryz.checked) false ⟨#[], #[.int .u64 0, .slice none 0 0, .slice none 0 0, .int .i64 0, .slice none 0 0], []⟩ 8 (by kernel_rfl) (by kernel_rfl) (by kernel_rfl) (by kernel_rfl)) ?_
  intro W base args ds gs before hval0 hW hcnd hsz0 _
  have hval : ∀ (j : Nat) t v, Tryz.f3.params[j]? = some t → args[j]? = some v → Value.okWide Tryz.prog W .any base t v := hval0
  have hW' := hW
  obtain ⟨p, q, hA0, hV, rfl, hfz, hnd⟩ := hW
  have hA : DataW.TrodAll enc Tryz.prog W 0 (fun _ => true) true Tryz.f3.params.toList args.toList ds p := hA0
  rw [Tryz.params3] at hA hval
  obtain ⟨v0, vs0, d0, ds0, p0, q0, hargs, rfl, rfl, h0, r0⟩ := trodAll_cons hA
  obtain ⟨v1, vs1, d1, ds1, p1, q1, rfl, rfl, rfl, h1, r1⟩ := trodAll_cons r0
  obtain ⟨v2, vs2, d2, ds2, p2, q2, rfl, rfl, rfl, h2, r2⟩ := trodAll_cons r1
  obtain ⟨v3, vs3, d3, ds3, p3, q3, rfl, rfl, rfl, h3, r3⟩ := trodAll_cons r2
  obtain ⟨v4, vs4, d4, ds4, p4, q4, rfl, rfl, rfl, h4, r4⟩ := trodAll_cons r3
  obtain ⟨rfl, rfl, rfl⟩ := trodAll_nil r4
  obtain rfl : args = #[v0, v1, v2, v3, v4] := by cases args; simp_all
  obtain ⟨rfl, rfl⟩ := trodVars_none hV
  obtain ⟨a0, rfl, rfl, rfl, w0⟩ := open_int Tryz.underlying22 (hval 0 22 v0 rfl rfl) h0
  have k1 := h1
  have lt1 : ∀ x ∈ p1, x.block < W.heap.size := by obtain ⟨m, hm⟩ := k1; exact DataW.trod_lt m _ _ _ hm
  obtain ⟨x1, hK1, G1⟩ := opn_arg (opn_slice (sz := 4) Tryz.underlying23 (by kernel_rfl) (opn_struct4 (z0 := 1) (z1 := 1) (z2 := 1) (z3 := 1) Tryz.underlying58 (opn_int Tryz.underlying3) (opn_int Tryz.underlying22) (opn_int Tryz.underlying22) (opn_slice (sz := 2) Tryz.underlying44 (by kernel_rfl) (opn_struct2 (s0 := 1) (s1 := 1) Tryz.underlying93 (opn_int Tryz.underlying3) (opn_int Tryz.underlying22) rfl rfl (by kernel_rfl) (by kernel_rfl) (by kernel_rfl))) rfl rfl rfl rfl (by kernel_rfl) (by kernel_rfl) (by kernel_rfl) (by kernel_rfl) (by kernel_rfl))) h1
  obtain ⟨a1, len1, cap1, rfl⟩ := okWide_slice Tryz.underlying23 (hval 1 23 v1 rfl rfl)
  obtain ⟨A1_0, c1_0, e1_, hr1_0⟩ := hK1
  injection e1_ with e1_ _
  injection e1_ with ea1_ en1_ ec1_
  subst ea1_; subst en1_; subst ec1_
  have k2 := h2
  have lt2 : ∀ x ∈ p2, x.block < W.heap.size := by obtain ⟨m, hm⟩ := k2; exact DataW.trod_lt m _ _ _ hm
  obtain ⟨x2, hK2, G2⟩ := opn_arg (opn_slice (sz := 1) Tryz.underlying24 (by kernel_rfl) (opn_int Tryz.underlying22)) h2
  obtain ⟨a2, len2, cap2, rfl⟩ := okWide_slice Tryz.underlying24 (hval 2 24 v2 rfl rfl)
  obtain ⟨A2_0, c2_0, e2_, hr2_0⟩ := hK2
  injection e2_ with e2_ _
  injection e2_ with ea2_ en2_ ec2_
  subst ea2_; subst en2_; subst ec2_
  obtain ⟨a3, rfl, rfl, rfl, w3⟩ := open_int Tryz.underlying3 (hval 3 3 v3 rfl rfl) h3
  have k4 := h4
  have lt4 : ∀ x ∈ p4, x.block < W.heap.size := by obtain ⟨m, hm⟩ := k4; exact DataW.trod_lt m _ _ _ hm
  obtain ⟨x4, hK4, G4⟩ := opn_arg (opn_slice (sz := 2) Tryz.underlying25 (by kernel_rfl) (opn_iarr Tryz.underlying37 Tryz.underlying3 (by kernel_rfl) (by kernel_rfl))) h4
  obtain ⟨a4, len4, cap4, rfl⟩ := okWide_slice Tryz.underlying25 (hval 4 25 v4 rfl rfl)
  obtain ⟨A4_0, c4_0, e4_, hr4_0⟩ := hK4
  injection e4_ with e4_ _
  injection e4_ with ea4_ en4_ ec4_
  subst ea4_; subst en4_; subst ec4_
  have s3 : a3 ≤ 9223372036854775807 := by have h := w3; simp [Lit.wf, IntKind.min, IntKind.max, IntKind.signed, IntKind.bits] at h; omega
  obtain ⟨xs, hxs, hX⟩ := exposures hr1_0
  have hlen : xs.length = x1.length := by rw [← hxs, List.length_map]
  obtain ⟨sc, hsc, hS⟩ := rows_map (enc := encI2) (held := fun _ _ => True) (fun p : Int × Int => [p.1, p.2]) hr4_0 (fun l cs _ ⟨hl, e⟩ => by
    match l, hl with
    | [u, v], _ => exact ⟨(u, v), rfl, e, trivial⟩)
  have hlen4 : sc.length = x4.length := by rw [← hsc, List.length_map]
  have ct := PayoutPlays_ct a0 xs (a1, cap1) x2 (a2, cap2) a3 sc (a4, cap4) (bu64 w0) (exposures_wf hxs G1) (fun p hp => bu64 (G2 p hp)) s3
  rw [show xsV xs (a1, cap1) = .slice a1 x1.length cap1 by show Value.slice _ xs.length _ = _; rw [hlen], hlen4] at ct
  refine (ct.row (fun w' k => ⟨rows_later pers_X k hX, rows_later (pers_int _) k hr2_0, rows_later (pers_RR fun _ _ _ _ h => h) k hS⟩)).mono fun e W' ⟨⟨_, he, _⟩, bel⟩ => ?_
  subst he
  exact ⟨_, rfl, _, _, _, [], _, [], hW', trodAll_mk1 (shut_bool Tryz.underlying4 _), (trodAll_cons_mk (shut_int Tryz.underlying22 w0) (trodAll_cons_mk (Below.trod laidOut (by kernel_rfl) (of_decide_eq_true (by kernel_rfl)) k1 bel lt1) (trodAll_cons_mk (Below.trod laidOut (by kernel_rfl) (of_decide_eq_true (by kernel_rfl)) k2 bel lt2) (trodAll_cons_mk (shut_int Tryz.underlying3 w3) (trodAll_cons_mk (Below.trod laidOut (by kernel_rfl) (of_decide_eq_true (by kernel_rfl)) k4 bel lt4) trodAll_mk0))))), rfl, bel.frame _, fun h => by cases h⟩
theorem over : Rows.payoutPlaysRow.holds Tryz.pinned (OpenSpec.ofChange Rows.payoutPlaysSpec) :=
  OpenClaim.holds_of_wide 3 Tryz.f3 rfl rfl rfl rfl rfl rfl rfl ⟨rfl, rfl, rfl, rfl, rfl⟩ rfl rfl rfl rfl rfl (by kernel_rfl) Tryz.func3 (by kernel_rfl)
    (of_decide_eq_true (by kernel_rfl)) (by unfold Func.isWrapper; first | (rw [if_pos (by decide +kernel)]; kernel_rfl) | (rw [if_neg (by decide +kernel)]; exact ⟨rfl, rfl⟩))
    (fun os started H enc _ => lifted os started H enc)
theorem proved : Rows.PayoutPlaysSaid := over
#print axioms proved
end Go.Proofs.YtjnniobafdchlaaGreat.payoutPlays
namespace Go.Proofs.YtjnniobafdchlaaGreat
/-- The row, under a short name, for the claim. -/
theorem payoutPlays_holds : Rows.PayoutPlaysSaid := payoutPlays.proved
end Go.Proofs.YtjnniobafdchlaaGreat
