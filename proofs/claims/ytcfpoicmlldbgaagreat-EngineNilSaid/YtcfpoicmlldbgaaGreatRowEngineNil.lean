/- The law EngineNil holds of the given program: the row, out of the walk. No conditions. -/
import Derived.Test.YtcfpoicmlldbgaaGreatRows
import Derived.Test.YtcfpoicmlldbgaaGreatWmEngineNil2
import Derived.WalkKit
import Derived.ProofKit
import Derived.OpenShut
import Derived.ShutString
import Derived.ChangeOld
import Derived.Below
import Derived.SizedLaws
namespace Go.Proofs.YtcfpoicmlldbgaaGreat.engineNil
open Go.ChangeShapes Go.WideShapes Go.ChangeAt Go.RowKit
open Go.ChangeMaps (open_string shut_string)
open Go.Proofs.Wk
set_option linter.unusedVariables false
theorem own : ownKnob Tryz.prog.godebug = none := by kernel_rfl
theorem laidOut : laidOutB Tryz.prog = true := by kernel_rfl
set_option maxHeartbeats 8000000 in
set_option maxRecDepth 100000 in
theorem lifted (os : Os) (started : os.Started) (H : Type) (enc : TypeId × Value → H) :
    ReturnsInHanded {} Tryz.checked os 3 .any (Rows.engineNilSpec.pre6 enc Tryz.prog Tryz.f3 Rows.engineNilRow.domain false) (Rows.engineNilSpec.post enc Tryz.prog Tryz.f3 false true false false) := by
  refine returnsInHanded_of_change_sized (C := Tryz.checked) own started (by kernel_rfl) Tryz.func3
    (ChangeSpec.witness6 (enc := enc) (C := Tryz.checked) false ⟨#[], #[.agg #[.int .i64 0, .int .i64 0, .int .u64 0, .int .u64 0, .int .u64 0, .slice none 0 0, .slice none 0 0], .int .i64 0, .int .i64 0], []⟩ 8 (by kernel_rfl) (by kernel_rfl) (by kernel_rfl) (by kernel_rfl)) ?_
  intro W base args ds gs before hval0 hW hcnd hsz0 _
  have hval : ∀ (j : Nat) t v, Tryz.f3.params[j]? = some t → args[j]? = some v → Value.okWide Tryz.prog W .any base t v := hval0
  have hW' := hW
  obtain ⟨p, q, hA0, hV, rfl, hfz, hnd⟩ := hW
  have hA : DataW.TrodAll enc Tryz.prog W 0 (fun _ => true) true Tryz.f3.params.toList args.toList ds p := hA0
  rw [Tryz.params3] at hA hval
  obtain ⟨v0, vs0, d0, ds0, p0, q0, hargs, rfl, rfl, h0, r0⟩ := trodAll_cons hA
  obtain ⟨v1, vs1, d1, ds1, p1, q1, rfl, rfl, rfl, h1, r1⟩ := trodAll_cons r0
  obtain ⟨v2, vs2, d2, ds2, p2, q2, rfl, rfl, rfl, h2, r2⟩ := trodAll_cons r1
  obtain ⟨rfl, rfl, rfl⟩ := trodAll_nil r2
  obtain rfl : args = #[v0, v1, v2] := by cases args; simp_all
  obtain ⟨rfl, rfl⟩ := trodVars_none hV
  have k0 := h0
  have lt0 : ∀ x ∈ p0, x.block < W.heap.size := by obtain ⟨m, hm⟩ := k0; exact DataW.trod_lt m _ _ _ hm
  obtain ⟨x0, hK0, G0⟩ := opn_arg (opn_struct7 (z0 := 1) (z1 := 1) (z2 := 1) (z3 := 1) (z4 := 1) (z5 := 1) (z6 := 1) Tryz.underlying26 (opn_int Tryz.underlying3) (opn_int Tryz.underlying3) (opn_int Tryz.underlying22) (opn_int Tryz.underlying22) (opn_int Tryz.underlying22) (opn_slice (sz := 1) Tryz.underlying23 (by kernel_rfl) (opn_int Tryz.underlying22)) (opn_slice (sz := 1) Tryz.underlying24 (by kernel_rfl) (opn_int Tryz.underlying5)) rfl rfl rfl rfl rfl rfl rfl (by kernel_rfl) (by kernel_rfl) (by kernel_rfl) (by kernel_rfl) (by kernel_rfl) (by kernel_rfl) (by kernel_rfl) (by kernel_rfl)) h0
  obtain ⟨cs0, rfl⟩ := okw_agg Tryz.underlying26 (hval 0 26 v0 rfl rfl)
  obtain ⟨_, _, e0_, rfl, ⟨_, _, rfl, rfl, ⟨_, _, rfl, rfl, ⟨_, _, rfl, rfl, ⟨_, _, rfl, rfl, ⟨_, _, rfl, ⟨A0_0, c0_0, rfl, hr0_0⟩, ⟨A0_1, c0_1, rfl, hr0_1⟩⟩⟩⟩⟩⟩⟩ := hK0
  obtain rfl : cs0 = #[.int .i64 x0.1, .int .i64 x0.2.1, .int .u64 x0.2.2.1, .int .u64 x0.2.2.2.1, .int .u64 x0.2.2.2.2.1, .slice A0_0 x0.2.2.2.2.2.1.length c0_0, .slice A0_1 x0.2.2.2.2.2.2.length c0_1] := by cases cs0; simpa [Value.cells] using e0_
  obtain ⟨a1, rfl, rfl, rfl, w1⟩ := open_int Tryz.underlying3 (hval 1 3 v1 rfl rfl) h1
  obtain ⟨a2, rfl, rfl, rfl, w2⟩ := open_int Tryz.underlying3 (hval 2 3 v2 rfl rfl) h2
  have ct := EngineNil_ct x0.1 x0.2.1 x0.2.2.1 x0.2.2.2.1 x0.2.2.2.2.1 A0_0 x0.2.2.2.2.2.1.length c0_0 A0_1 x0.2.2.2.2.2.2.length c0_1 a1 a2
  refine (ct.row (fun w' k => trivial)).mono fun e W' ⟨⟨_, he, _⟩, bel⟩ => ?_
  subst he
  exact ⟨_, rfl, _, _, _, [], _, [], hW', trodAll_mk1 (shut_bool Tryz.underlying4 _), (trodAll_cons_mk (Below.trod laidOut (by kernel_rfl) (of_decide_eq_true (by kernel_rfl)) k0 bel lt0) (trodAll_cons_mk (shut_int Tryz.underlying3 w1) (trodAll_cons_mk (shut_int Tryz.underlying3 w2) trodAll_mk0))), rfl, bel.frame _, fun h => by cases h⟩
theorem and2 {a b : Bool} (h : a = true) (k : b = true) : (a && b) = true := by rw [h, k]; rfl
theorem fct0 : (Rows.engineNilRow.wf (OpenSpec.ofChange Rows.engineNilSpec)) = true := by kernel_rfl
theorem fct1 : (laidOutB Tryz.pinned.checked.prog) = true := by kernel_rfl
theorem fct2 : (mapsRowed Tryz.pinned.checked.prog) = true := by kernel_rfl
theorem fct3 : (Tryz.f3.params.all (Tryz.pinned.checked.prog.readableRec ·)) = true := by kernel_rfl
theorem fct4 : (namedTie Tryz.pinned.checked.prog Rows.engineNilRow.named Rows.engineNilSpec.vars) = true := by kernel_rfl
theorem fct5 : ((Rows.engineNilRow.stops == [])) = true := by kernel_rfl
theorem fct6 : ((Tryz.pinned.checked.prog.stops == [])) = true := by kernel_rfl
theorem fct7 : ((Rows.engineNilRow.knobs == [])) = true := by kernel_rfl
theorem fct8 : ((Tryz.pinned.checked.prog.stopKnobs == [])) = true := by kernel_rfl
theorem fct9 : ((Rows.engineNilRow.inPlace == Tryz.pinned.checked.prog.inPlace 3)) = true := by kernel_rfl
theorem fct10 : ((Rows.engineNilRow.unfollowed == Tryz.pinned.checked.prog.unfollowed 3)) = true := by kernel_rfl
theorem fct11 : ((Rows.engineNilRow.recurses == Tryz.pinned.checked.prog.recurses 3)) = true := by kernel_rfl
theorem fct12 : ((Rows.engineNilRow.named == Tryz.pinned.checked.prog.varsNamed 3)) = true := by kernel_rfl
theorem fct13 : ((Rows.engineNilRow.maps == (Tryz.f3.params.toList ++ Rows.engineNilSpec.plain.varTypes Tryz.pinned.checked.prog).any (Tryz.pinned.checked.prog.mapsRec ·))) = true := by kernel_rfl
theorem fct14 : ((Rows.engineNilRow.ifaces == (Tryz.f3.params.toList ++ Rows.engineNilSpec.plain.varTypes Tryz.pinned.checked.prog).any (Tryz.pinned.checked.prog.ifacesRec ·))) = true := by kernel_rfl
theorem fct15 : ((Rows.engineNilRow.mapsOut == Tryz.pinned.checked.prog.mapsAmong Tryz.f3.resultTypes.toList)) = true := by kernel_rfl
theorem fct16 : ((Rows.engineNilRow.loops == (Tryz.f3.params.toList ++ Rows.engineNilSpec.plain.varTypes Tryz.pinned.checked.prog).any (Tryz.pinned.checked.prog.loopsFrom ·))) = true := by kernel_rfl
theorem fct17 : ((Rows.engineNilRow.wideKeys == (Tryz.f3.params.toList ++ Rows.engineNilSpec.plain.varTypes Tryz.pinned.checked.prog ++ Tryz.f3.resultTypes.toList).any (Tryz.pinned.checked.prog.wideKeysFrom ·))) = true := by kernel_rfl
theorem fct18 : (Rows.engineNilSpec.vars.all (Tryz.pinned.checked.prog.varReadable ·)) = true := by kernel_rfl
theorem fct19 : (Tryz.f3.resultTypes.all (fun t => Tryz.pinned.checked.prog.readableRec t && decide (t < Tryz.pinned.checked.prog.types.size))) = true := by kernel_rfl
theorem fct20 : ((Rows.engineNilRow.ifacesOut == Tryz.f3.resultTypes.toList.any (Tryz.pinned.checked.prog.ifacesRec ·))) = true := by kernel_rfl
theorem fct21 : ((Rows.engineNilRow.loopsOut == Tryz.f3.resultTypes.toList.any (Tryz.pinned.checked.prog.loopsFrom ·))) = true := by kernel_rfl
theorem fct22 : ((Rows.engineNilRow.plainKeys == Tryz.pinned.checked.prog.plainKeys)) = true := by kernel_rfl
theorem fct23 : (Rows.engineNilRow.shortTexts.isNone) = true := by kernel_rfl
theorem fct24 : (Tryz.pinned.checked.prog.stopsHeard) = true := by kernel_rfl
theorem fct25 : (Tryz.pinned.checked.prog.mayEnter) = true := by kernel_rfl
theorem fct26 : ((Rows.engineNilRow.lifted == Tryz.pinned.checked.prog.liftsFinal)) = true := by kernel_rfl
theorem fct27 : ((Tryz.pinned.checked.prog.make == some Rows.engineNilRow.make)) = true := by kernel_rfl
theorem fct29 : ((Rows.engineNilRow.pinned == Rows.engineNilRow.pinnedBy)) = true := by kernel_rfl
theorem fct30 : ((Rows.engineNilRow.veiled == (Tryz.f3.params.toList ++ Rows.engineNilSpec.plain.varTypes Tryz.pinned.checked.prog ++ Tryz.f3.resultTypes.toList).any (Tryz.pinned.checked.prog.veiledRec ·))) = true := by kernel_rfl
theorem fct31 : (Rows.engineNilRow.veiledFits Tryz.pinned.checked.prog Tryz.f3.params.toList (Tryz.f3.params.toList ++ Rows.engineNilSpec.plain.varTypes Tryz.pinned.checked.prog ++ Tryz.f3.resultTypes.toList)) = true := by kernel_rfl
theorem closed : joinedFacts Tryz.pinned.checked.prog 3 Tryz.f3 Rows.engineNilSpec Rows.engineNilRow = true := by
  delta joinedFacts
  exact (and2 (and2 (and2 (and2 (and2 (and2 (and2 (and2 (and2 (and2 (and2 (and2 (and2 (and2 (and2 (and2 (and2 (and2 (and2 (and2 (and2 (and2 (and2 (and2 (and2 (and2 (and2 (and2 (and2 (and2 (and2 fct0 fct1) fct2) fct3) fct4) fct5) fct6) fct7) fct8) fct9) fct10) fct11) fct12) fct13) fct14) fct15) fct16) fct17) fct18) fct19) fct20) fct21) fct22) fct23) fct24) fct25) fct26) fct27) (by kernel_rfl)) fct29) fct30) fct31)
theorem over : Rows.engineNilRow.holds Tryz.pinned (OpenSpec.ofChange Rows.engineNilSpec) :=
  OpenClaim.holds_of_wide 3 Tryz.f3 rfl rfl rfl rfl rfl rfl rfl ⟨rfl, rfl, rfl, rfl, rfl⟩ rfl rfl rfl rfl rfl (by kernel_rfl) Tryz.func3 closed
    (of_decide_eq_true (by kernel_rfl)) (by unfold Func.isWrapper; first | (rw [if_pos (by decide +kernel)]; kernel_rfl) | (rw [if_neg (by decide +kernel)]; exact ⟨rfl, rfl⟩))
    (fun os started H enc _ => lifted os started H enc)
theorem proved : Rows.EngineNilSaid := over
#print axioms proved
end Go.Proofs.YtcfpoicmlldbgaaGreat.engineNil
namespace Go.Proofs.YtcfpoicmlldbgaaGreat
/-- The row, under a short name, for the claim. -/
theorem engineNil_holds : Rows.EngineNilSaid := engineNil.proved
end Go.Proofs.YtcfpoicmlldbgaaGreat
