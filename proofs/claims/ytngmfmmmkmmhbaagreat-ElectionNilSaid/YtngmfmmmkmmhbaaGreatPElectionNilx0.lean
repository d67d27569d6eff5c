/- The walk of the law ElectionNil: what its functions do with an empty snapshot, and with a nil election. No conditions. -/
import Derived.Test.YtngmfmmmkmmhbaaGreatProg
import Derived.Below
import Derived.Deep.Draws
import Derived.Deep.AppendLies
import Derived.Maps.AppendAt
import Derived.OwnWalk
import Derived.Laws.BytesArg
import Derived.Laws.MakeOwn
import Derived.Laws.OwnMore
import Derived.Deep.OwnRows
import Derived.Tactics
import Derived.Lib.ConvBytes
import Derived.Laws.Slices
import Derived.WalkKit
import Derived.KernelRfl
import Derived.RowKit3
import Derived.Deep.LoopGhost
import Derived.Deep.QuietTactic
import Derived.BigQuiet
import Derived.WideLaws
import Derived.Deep.DeepCutAuto
import Derived.Deep.CutBlock
import Derived.Deep.RegionHeld3
import Derived.Laws.Rows
import Derived.Lib.AppendStr
import Derived.ArgAppend
import Derived.Laws.IdiomCopy
import Derived.OrdersHeld
import Derived.Laws.BitsLemmas
import Derived.RowKit
import Derived.Test.YtngmfmmmkmmhbaaGreatMyRVElectionNil
import Derived.Test.YtngmfmmmkmmhbaaGreatVElectionNil
import Derived.LoopN
namespace Go.Proofs.YtngmfmmmkmmhbaaGreat.PElectionNil
open Go.RowKit Go.Proofs.YtngmfmmmkmmhbaaGreatW.PrintWords Go.Proofs.YtngmfmmmkmmhbaaGreatW.PrintLast Go.Proofs.YtngmfmmmkmmhbaaGreatW.PrintMore
set_option linter.unusedVariables false
set_option linter.unusedSimpArgs false
set_option maxHeartbeats 4000000
set_option maxRecDepth 100000
theorem rising_nil (w : World) : Calls Tryz.prog 26 #[.slice none 0 0] w fun e w' => e = .returned (.bool true) ∧ Below w.heap.size w w' := by
  go_enter Tryz.func26, Tryz.ntmps26
  go_wp2
  refine wp_loop_rounds 1 ?_
  rw [rounds_succ]
  go_wp2
  go_ret
  exact ⟨rfl, Below.refl _ _⟩
theorem clone28_nil (w : World) : Calls Tryz.prog 28 #[.slice none 0 0] w fun e w' => e = .returned (.slice none 0 0) ∧ w' = w := by
  have knil : ∀ (W : World) (n c : Nat), (binOp .eql 41 (.slice none n c) (.slice none 0 0)).run Tryz.prog W = .ok (.bool true) W := fun W n c => Lib.run_eql_slice_nil W 41 85 none n c 0 0 Tryz.underlying41
  go_enter Tryz.func28, Tryz.ntmps28
  go_wp2
  go_ret
  exact ⟨rfl, rfl⟩
theorem clone29_nil (w : World) : Calls Tryz.prog 29 #[.slice none 0 0] w fun e w' => e = .returned (.slice none 0 0) ∧ w' = w := by
  have knil : ∀ (W : World) (n c : Nat), (binOp .eql 25 (.slice none n c) (.slice none 0 0)).run Tryz.prog W = .ok (.bool true) W := fun W n c => Lib.run_eql_slice_nil W 25 3 none n c 0 0 Tryz.underlying25
  go_enter Tryz.func29, Tryz.ntmps29
  go_wp2
  go_ret
  exact ⟨rfl, rfl⟩
theorem clone13_nil (w : World) : Calls Tryz.prog 13 #[.slice none 0 0] w fun e w' => e = .returned (.slice none 0 0) ∧ w' = w := by
  have knil : ∀ (W : World) (n c : Nat), (binOp .eql 22 (.slice none n c) (.slice none 0 0)).run Tryz.prog W = .ok (.bool true) W := fun W n c => Lib.run_eql_slice_nil W 22 5 none n c 0 0 Tryz.underlying22
  go_enter Tryz.func13, Tryz.ntmps13
  go_wp2
  go_ret
  exact ⟨rfl, rfl⟩
theorem len_nil (w : World) : Calls Tryz.prog 7 #[.pointer none] w fun e w' => e = .returned (.int .i64 0) ∧ Below w.heap.size w w' := by
  go_enter Tryz.func7, Tryz.ntmps7
  go_wp2
  go_ret
  exact ⟨rfl, Below.refl _ _⟩
theorem may_nil (A : Option Addr) (n c : Nat) (w : World) : Calls Tryz.prog 12 #[.pointer none, .slice A n c] w fun e w' => e = .returned (.int .i64 1) ∧ Below w.heap.size w w' := by
  go_enter Tryz.func12, Tryz.ntmps12
  go_wp2
  go_ret
  exact ⟨rfl, Below.refl _ _⟩
theorem close_nil (w : World) : Calls Tryz.prog 5 #[.pointer none] w fun e w' => e = .returned (.tuple #[.agg #[.slice none 0 0, .slice none 0 0, .int .u64 0, .int .u64 0, .int .u64 0, .int .u64 0, .int .i64 0, .slice none 0 0, .slice none 0 0], .int .i64 1]) ∧ Below w.heap.size w w' := by
  go_enter Tryz.func5, Tryz.ntmps5
  go_wp2
  have hk := heap_alloc_new w (Obj.cells #[Value.slice none 0 0, Value.slice none 0 0, Value.int IntKind.u64 0, Value.int IntKind.u64 0, Value.int IntKind.u64 0, Value.int IntKind.u64 0, Value.int IntKind.i64 0, Value.slice none 0 0, Value.slice none 0 0] 32)
  refine bodyPost_ret (results_ct rfl _ _ w.heap.size 32 _ (0, 0) _ rfl hk Tryz.underlying32 rfl (by kernel_rfl)) rfl ?_
  exact ⟨rfl, below_alloc (Below.refl _ _) _⟩
theorem formed_nil (w : World) : Calls Tryz.prog 14 #[.agg #[.slice none 0 0, .slice none 0 0]] w fun e w' => e = .returned (.bool true) ∧ Below w.heap.size w w' := by
  go_enter Tryz.func14, Tryz.ntmps14
  go_wp2_with (go_at_call 26; refine (rising_nil _).mono ?_; rintro e w1 ⟨rfl, hb⟩; have hk := blk_below (heap_alloc_new _ _) hb; have hmk : (Instr.makeMap 83 none).run Tryz.prog w1 = .ok (.map (some w1.heap.size)) (w1.alloc (.map #[] 0)) := rfl; have hc0 : (w1.alloc (.map #[] 0)).cell? ⟨w.heap.size, 0, none⟩ = some (.slice none 0 0) := (blk_cell (blk_alloc hk _) 0).trans rfl)
  refine wp_loop_rounds 1 ?_
  rw [rounds_succ]
  go_wp2
  go_ret
  exact ⟨rfl, below_alloc (below_step (below_alloc (Below.refl _ _) _) hb) _⟩
theorem submit_nil (who : Int) (A : Option Addr) (n c : Nat) (w : World) : Calls Tryz.prog 6 #[.pointer none, .int .i64 who, .slice A n c] w fun e w' => e = .returned (.int .i64 1) ∧ Below w.heap.size w w' := by
  go_enter Tryz.func6, Tryz.ntmps6
  go_wp2_with (go_at_call 12; refine (may_nil _ _ _ _).mono ?_; rintro e w1 ⟨rfl, hb⟩)
  go_ret
  exact ⟨rfl, hb⟩
theorem results_c1 {P : Program} {fn : Func} {p : Tmp} {ty : TypeId} (h : fn.results = #[.cell p ty]) (tmps : Array Value) (w : World) (g : Nat) (t : TypeId) (cs : Array Value) (fr : Nat × Nat) (d : TypeDesc)
    (hp : tmps.getD p undef = .pointer (some ⟨g, 0, none⟩)) (hg : w.heap[g]? = some (.cells cs t fr))
    (hu : P.underlying ty = some d) (hd : (match d with | .struct _ | .array _ _ => true | _ => false) = true) (hi : (P.info? ty).map (·.size) = some cs.size) :
    (results fn tmps).run P w = .ok (.agg cs) w := by
  have hp' : tmps[p]?.getD undef = .pointer (some ⟨g, 0, none⟩) := by simpa using hp
  simp [results, h, hp', asAddr, run_loadVar_row w g t ty cs fr d hg hu hd hi]
theorem copied_nil (w : World) : Calls Tryz.prog 15 #[.agg #[.slice none 0 0, .slice none 0 0]] w fun e w' => e = .returned (.agg #[.slice none 0 0, .slice none 0 0]) ∧ Below w.heap.size w w' := by
  go_enter Tryz.func15, Tryz.ntmps15
  go_wp2
  have hk : ((w.alloc (.cells #[.slice none 0 0, .slice none 0 0] 43)).alloc (.cells #[.slice none 0 0, .slice none 0 0] 43)).heap[w.heap.size]? = some (.cells #[.slice none 0 0, .slice none 0 0] 43) := blk_alloc (heap_alloc_new _ _) _
  have hS : ((w.alloc (.cells #[.slice none 0 0, .slice none 0 0] 43)).alloc (.cells #[.slice none 0 0, .slice none 0 0] 43)).drew.cell? ⟨w.heap.size, 0, none⟩ = some (.slice none 0 0) ∧ ((w.alloc (.cells #[.slice none 0 0, .slice none 0 0] 43)).alloc (.cells #[.slice none 0 0, .slice none 0 0] 43)).drew.cell? ⟨w.heap.size, 1, none⟩ = some (.slice none 0 0) := ⟨(blk_cell hk 0).trans rfl, (blk_cell hk 1).trans rfl⟩
  go_region_held3 (fun W => W.cell? ⟨w.heap.size, 0, none⟩ = some (.slice none 0 0) ∧ W.cell? ⟨w.heap.size, 1, none⟩ = some (.slice none 0 0))
    (first | assumption | go_keep)
    (first | (go_at_call 28; refine (clone28_nil _).mono ?_; rintro e w1 ⟨rfl, rfl⟩) | (go_at_call 29; refine (clone29_nil _).mono ?_; rintro e w2 ⟨rfl, rfl⟩))
  all_goals
    have hk2 : (((w.alloc (.cells #[.slice none 0 0, .slice none 0 0] 43)).alloc (.cells #[.slice none 0 0, .slice none 0 0] 43)).alloc (.cells #[.slice none 0 0, .slice none 0 0] 43)).drew.heap[w.heap.size + 1 + 1]? = some (.cells #[.slice none 0 0, .slice none 0 0] 43) := by
      have h := heap_alloc_new ((w.alloc (.cells #[.slice none 0 0, .slice none 0 0] 43)).alloc (.cells #[.slice none 0 0, .slice none 0 0] 43)) (.cells #[.slice none 0 0, .slice none 0 0] 43)
      simp only [alloc_size] at h; exact h
    have hc20 := (blk_cell hk2 0).trans rfl
    have hc21 := (blk_cell hk2 1).trans rfl
    go_wp2
    refine wp_loop_rounds 1 ?_
    rw [rounds_succ]
    go_wp2
  all_goals
    have hk1 : (((w.alloc (.cells #[.slice none 0 0, .slice none 0 0] 43)).alloc (.cells #[.slice none 0 0, .slice none 0 0] 43)).alloc (.cells #[.slice none 0 0, .slice none 0 0] 43)).drew.heap[w.heap.size + 1]? = some (.cells #[.slice none 0 0, .slice none 0 0] 43) := by
      have h := blk_alloc (heap_alloc_new (w.alloc (.cells #[.slice none 0 0, .slice none 0 0] 43)) (.cells #[.slice none 0 0, .slice none 0 0] 43)) (.cells #[.slice none 0 0, .slice none 0 0] 43)
      simp only [alloc_size] at h; exact h
    refine bodyPost_ret (results_c1 rfl _ _ (w.heap.size + 1) 43 _ (0, 0) _ rfl hk1 Tryz.underlying43 rfl (by kernel_rfl)) rfl ?_
    exact ⟨rfl, (below_alloc (below_alloc (below_alloc (Below.refl _ _) _) _) _).drew⟩
def EL (v : Value) : Array Value := #[.slice none 0 0, .slice none 0 0, .int .i64 1, .int .i64 1, v, .bool false]
theorem new_one (w : World) : Calls Tryz.prog 8 #[.agg #[.slice none 0 0, .slice none 0 0], .int .i64 1, .int .i64 1] w fun e w' => ∃ g, e = .returned (.tuple #[.pointer (some ⟨g, 0, none⟩), .int .i64 0]) ∧ w'.heap[g]? = some (.cells (EL (.slice none 0 0)) 46 (0, 0)) ∧ w.heap.size ≤ g ∧ Below w.heap.size w w' := by
  go_enter Tryz.func8, Tryz.ntmps8
  go_wp2_with (first | (go_at_call 14; refine (formed_nil _).mono ?_; rintro e w1 ⟨rfl, hb⟩; have hk := blk_below (heap_alloc_new _ _) hb; have hc0 : w1.cell? ⟨w.heap.size, 0, none⟩ = some (.slice none 0 0) := (blk_cell hk 0).trans rfl; have hc1 : w1.cell? ⟨w.heap.size, 1, none⟩ = some (.slice none 0 0) := (blk_cell hk 1).trans rfl) | (go_at_call 15; refine (copied_nil _).mono ?_; rintro e w2 ⟨rfl, hb2⟩))
  go_ret2
  exact ⟨w2.heap.size, rfl, heap_alloc_new _ _, Nat.le_trans (below_size (below_step (below_alloc (Below.refl _ _) _) hb)) hb2.size, below_alloc (below_step (below_step (below_alloc (Below.refl _ _) _) hb) hb2) _⟩
theorem may_ok (g : Nat) (w : World) (hk : w.heap[g]? = some (.cells (EL (.slice none 0 0)) 46 (0, 0))) : Calls Tryz.prog 12 #[.pointer (some ⟨g, 0, none⟩), .slice none 0 0] w fun e w' => e = .returned (.int .i64 0) ∧ Below w.heap.size w w' := by
  have c3 : w.cell? ⟨g, 3, none⟩ = some (.int .i64 1) := (blk_cell hk 3).trans rfl
  have c4 : w.cell? ⟨g, 4, none⟩ = some (.slice none 0 0) := (blk_cell hk 4).trans rfl
  have c5 : w.cell? ⟨g, 5, none⟩ = some (.bool false) := (blk_cell hk 5).trans rfl
  go_enter Tryz.func12, Tryz.ntmps12
  go_wp2
  have hS : w.drew.cell? ⟨g, 3, none⟩ = some (.int .i64 1) ∧ w.drew.cell? ⟨g, 4, none⟩ = some (.slice none 0 0) := ⟨c3, c4⟩
  go_region_held3 (fun W => W.cell? ⟨g, 3, none⟩ = some (.int .i64 1) ∧ W.cell? ⟨g, 4, none⟩ = some (.slice none 0 0)) (first | assumption | go_keep) (fail)
  all_goals go_wp2
  all_goals go_ret
  all_goals exact ⟨rfl, (Below.refl _ _).drew⟩
theorem len_one (g h c : Nat) (w : World) (hk : w.heap[g]? = some (.cells (EL (.slice (some ⟨h, 0, none⟩) 1 c)) 46 (0, 0))) : Calls Tryz.prog 7 #[.pointer (some ⟨g, 0, none⟩)] w fun e w' => e = .returned (.int .i64 1) ∧ Below w.heap.size w w' := by
  have c4 : w.cell? ⟨g, 4, none⟩ = some (.slice (some ⟨h, 0, none⟩) 1 c) := (blk_cell hk 4).trans rfl
  go_enter Tryz.func7, Tryz.ntmps7
  go_wp2
  go_ret
  exact ⟨rfl, Below.refl _ _⟩

theorem submit_one (g : Nat) (w0 w : World) (hb0 : Below w0.heap.size w0 w) (hg0 : w0.heap.size ≤ g) (hk : w.heap[g]? = some (.cells (EL (.slice none 0 0)) 46 (0, 0))) : Calls Tryz.prog 6 #[.pointer (some ⟨g, 0, none⟩), .int .i64 1, .slice none 0 0] w fun e w' => e = .returned (.int .i64 0) ∧ ∃ h c, w'.heap[g]? = some (.cells (EL (.slice (some ⟨h, 0, none⟩) 1 c)) 46 (0, 0)) ∧ Below w0.heap.size w0 w' := by
  go_enter Tryz.func6, Tryz.ntmps6
  go_wp2_with (go_at_call 12; refine (may_ok g _ hk).mono ?_; rintro e w1 ⟨rfl, hb⟩; have hk1 := blk_below hk hb)
  have c4 : w1.cell? ⟨g, 4, none⟩ = some (.slice none 0 0) := (blk_cell hk1 4).trans rfl
  have f4 : w1.frozen? ⟨g, 4, none⟩ = false := blk_frozen hk1 4
  have hgl : g < w1.heap.size := blk_lt hk1
  go_region_with (first | (go_at_call 13; refine (clone13_nil _).mono ?_; rintro e w2 ⟨rfl, rfl⟩))
  all_goals go_wp2
  all_goals go_ret
  all_goals exact ⟨rfl, _, _, blk_alloc (blk_alloc (blk_put (cs := EL (.slice none 0 0)) hk1 4 _ rfl) _) _, bD_ (bD_ (bA_ (bA_ (below_set (below_step hb0 hb) hg0) _) _))⟩
theorem awake_ok (w : World) : Calls Tryz.prog 4 #[] w fun e w' => e = .returned (.bool true) ∧ Below w.heap.size w w' := by
  go_enter Tryz.func4, Tryz.ntmps4
  go_wp2_with (first | (go_at_call 8; refine (new_one _).mono ?_; rintro e w1 ⟨g, rfl, hk1, hg, hb1⟩) | (go_at_call 6; refine (submit_one g w w1 hb1 hg hk1).mono ?_; rintro e w2 ⟨rfl, h, c, hk2, hb2⟩) | (go_at_call 7; refine (len_one g h c _ hk2).mono ?_; rintro e w3 ⟨rfl, hb3⟩))
  go_ret
  exact ⟨rfl, below_step hb2 hb3⟩
theorem law_ok (who : Int) (A : Option Addr) (n c : Nat) (w : World) : Calls Tryz.prog 3 #[.int .i64 who, .slice A n c] w fun e w' => e = .returned (.bool true) ∧ Below w.heap.size w w' := by
  go_enter Tryz.func3, Tryz.ntmps3
  go_wp2_with (first | (go_at_call 4; refine (awake_ok _).mono ?_; rintro e w1 ⟨rfl, hb1⟩) | (go_at_call 5; refine (close_nil _).mono ?_; rintro e w2 ⟨rfl, hb2⟩) | (go_at_call 6; refine (submit_nil _ _ _ _ _).mono ?_; rintro e w3 ⟨rfl, hb3⟩) | (go_at_call 7; refine (len_nil _).mono ?_; rintro e w4 ⟨rfl, hb4⟩))
  go_ret
  exact ⟨rfl, below_step (below_step (bA_ (below_step hb1 hb2) _) hb3) hb4⟩
end Go.Proofs.YtngmfmmmkmmhbaaGreat.PElectionNil
