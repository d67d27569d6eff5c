/- Walks and their mathematics, merged. No conditions beyond those written. -/
import Derived.Test.YtcfpoicmlldbgaaGreatWmEngineNil0
import Derived.Test.YtcfpoicmlldbgaaGreatProg
/- Words for the walks of a seat's program: slices of limbs «as» values. -/
namespace Go.Proofs.Wk
open Go.RowKit
set_option linter.unusedVariables false
set_option linter.unusedSimpArgs false
theorem mixed : Tryz.prog.follows .mixedOrders = true := by kernel_rfl
abbrev sl (l : List Int) (x : Option Addr × Nat) : Value := .slice x.1 l.length x.2
abbrev Tt {α : Type} (_ : α) : Prop := True
end Go.Proofs.Wk
/- Snapshots «as» data: what the walks of layer 10 say of them. -/
namespace Go.Proofs.Wk
open Go.RowKit
set_option linter.unusedVariables false
set_option linter.unusedSimpArgs false
structure Vtr where
  id : Int
  st : Int
  pk : List Int
  z : Option Addr × Nat
structure Sn where
  vs : List Vtr
  zv : Option Addr × Nat
  cs : List Int
  zc : Option Addr × Nat
theorem get_at {α : Type} {l : List α} {i : Nat} (h : i < l.length) : ∃ x, l[i]? = some x ∧ x ∈ l := ⟨l[i], List.getElem?_eq_getElem h, List.getElem_mem h⟩
theorem get_rd {l : List Int} {i : Nat} {x : Int} (h : l[i]? = some x) : rd l (i : Int) = x := by
  unfold rd; rw [List.getD_eq_getElem?_getD, Int.toNat_natCast, h]; rfl
/-! ### Rising lists -/
theorem top63 {n : Nat} (h : n ≤ maxLen) : n ≤ 9223372036854775807 := by simpa [maxLen] using h
theorem i64s {i n : Nat} (h : i < n) (hn : n ≤ 9223372036854775807) : wrap64 ((i : Int) + 1) = ((i + 1 : Nat) : Int) := by unfold wrap64; omega
/-! ### Formed snapshots -/
theorem take_snoc {α : Type} {l : List α} {i : Nat} {x : α} (h : l[i]? = some x) : l.take (i + 1) = l.take i ++ [x] := by
  rw [List.take_add_one, h]; rfl
end Go.Proofs.Wk
/- Walks of layer 10 (graph): rising, money.Add. -/
namespace Go.Proofs.Wk
open Go.RowKit
set_option maxRecDepth 100000
attribute [local irreducible] Pw OpG
set_option linter.unusedVariables false
set_option linter.unusedSimpArgs false
end Go.Proofs.Wk
/- Money: sums. -/
namespace Go.Proofs.Wk
open Go.RowKit
set_option maxRecDepth 100000
set_option maxHeartbeats 1000000
attribute [local irreducible] Pw OpG
set_option linter.unusedVariables false
set_option linter.unusedSimpArgs false
def U64 (n : Int) : Prop := 0 ≤ n ∧ n ≤ 18446744073709551615
def lsum : List Int → Int
  | [] => 0
  | n :: r => n + lsum r
theorem lsum_append (a b : List Int) : lsum (a ++ b) = lsum a + lsum b := by
  induction a with
  | nil => simp [lsum]
  | cons x r ih => simp only [List.cons_append, lsum, ih]; omega
theorem lsum_snoc (a : List Int) (n : Int) : lsum (a ++ [n]) = lsum a + n := by rw [lsum_append]; simp [lsum]
theorem lsum_nonneg {l : List Int} (h : ∀ n ∈ l, U64 n) : 0 ≤ lsum l := by
  induction l with
  | nil => simp [lsum]
  | cons x r ih =>
    have h1 := (h x (List.mem_cons_self ..)).1
    have h2 := ih (fun v hv => h v (List.mem_cons_of_mem _ hv))
    simp only [lsum]; omega
theorem lsum_take_le {l : List Int} (h : ∀ n ∈ l, U64 n) (k : Nat) : lsum (l.take k) ≤ lsum l := by
  have e : l = l.take k ++ l.drop k := (List.take_append_drop k l).symm
  have h2 := lsum_nonneg (l := l.drop k) (fun n hn => h n (List.mem_of_mem_drop hn))
  have h3 : lsum l = lsum (l.take k) + lsum (l.drop k) := by rw [← lsum_append, List.take_append_drop]
  omega
def sumM (l : List Int) : Int × Int := if lsum l ≤ 18446744073709551615 then (lsum l, 0) else (0, 3)
abbrev U1 (l : List Int) (x : Option Addr × Nat) : World → Prop := Ints .u64 l x.1 x.2
theorem mSum_ct (l : List Int) (x : Option Addr × Nat) (hb : ∀ n ∈ l, U64 n) : Ct Tryz.prog 73 #[sl l x] (U1 l x) (fun _ : Unit => .tuple #[.int .u64 (sumM l).1, .int .i64 (sumM l).2]) Tt (fun _ _ => True) := by
  obtain ⟨A, c⟩ := x
  refine Ct.start Tryz.func73 rfl rfl (slots_of rfl slots1) (fun D w0 => ?_)
  refine Pw.use (p := l.length ≤ maxLen) (fun w h => (fact0 h).top) (fun htop => ?_)
  have htop := top63 htop
  try refine Pw.run ?_
  refine Pw.loopJ (σ := Nat) (fun i => i ≤ l.length ∧ lsum (l.take i) ≤ 18446744073709551615) (fun i => ⟨[(4, .int .u64 (lsum (l.take i))), (7, .slice A l.length c), (8, .int .i64 l.length), (9, .int .i64 i)], [], [Ints .u64 l A c]⟩) (fun i => l.length - i) 0 ⟨Nat.zero_le _, by simp [lsum]⟩ (Pw.enter ⟨rfl, rfl, rfl, rfl, trivial⟩ (fun _ h => h)) ?_
  rintro i ⟨hi, hs⟩
  dsimp only at hi hs ⊢
  try refine Pw.run ?_
  refine Pw.condD rfl (fun c3 => ?_) (fun c3 => ?_)
  · obtain ⟨y, hy, hm⟩ := get_at (show i < l.length by omega)
    have hyb := hb y hm
    unfold U64 at hyb
    have h0 := lsum_nonneg (l := l.take i) (fun n hn => hb n (List.mem_of_mem_take hn))
    have e1 : lsum (l.take (i + 1)) = lsum (l.take i) + y := by rw [take_snoc hy, lsum_snoc]
    try refine Pw.run ?_
    refine Pw.list (Pw.index rfl rfl rfl rfl (Int.natCast_nonneg i) c3 (fun w h => (fact0 h).has (Int.natCast_nonneg i) c3) rfl rfl ?_)
    rintro ad rfl
    refine Pw.list (Pw.load1 rfl rfl (fun w hs => by first | exact (fact0 hs.all).cell (by first | assumption | omega) (by first | assumption | omega) | exact (fact1 hs.all).cell (by first | assumption | omega) (by first | assumption | omega) | exact (fact2 hs.all).cell (by first | assumption | omega) (by first | assumption | omega) | exact (fact3 hs.all).cell (by first | assumption | omega) (by first | assumption | omega)) rfl rfl ?_)
    rw [get_rd hy]
    try refine Pw.run ?_
    refine Pw.condD rfl (fun c4 => ?_) (fun c4 => ?_)
    · rw [wu64] at c4
      have h2 := lsum_take_le hb (i + 1)
      try refine Pw.run ?_
      exact Pw.ret_ (x := ()) (.tmp rfl (.tmp rfl .nil)) (by unfold sumM; rw [if_neg (by omega)]; rfl) trivial (fun w h => by trivial)
    · rw [wu64] at c4
      try refine Pw.run ?_
      refine Pw.re (d := 4) (v' := .int .u64 (lsum (l.take (i + 1)))) rfl (congrArg (Value.int .u64) (by rw [e1]; exact wu (by omega) (by omega))) ?_
      refine Pw.re (d := 9) (v' := .int .i64 ((i + 1 : Nat) : Int)) rfl (congrArg (Value.int .i64) (i64s (by omega) htop)) ?_
      exact Pw.again (i + 1) ⟨by omega, by omega⟩ (by show l.length - (i + 1) < l.length - i; omega) ⟨rfl, rfl, rfl, rfl, trivial⟩ rfl (fun w h => h)
  · try refine Pw.run ?_
    rw [List.take_of_length_le (by omega)] at hs ⊢
    exact Pw.ret_ (x := ()) (.tmp rfl (.tmp rfl .nil)) (by unfold sumM; rw [if_pos hs]; rfl) trivial (fun w h => by trivial)
end Go.Proofs.Wk
/- A nil engine: each call's answer; small parts of a new one. -/
namespace Go.Proofs.Wk
open Go.RowKit
set_option maxRecDepth 100000
set_option maxHeartbeats 8000000
set_option linter.unusedVariables false
set_option linter.unusedSimpArgs false
section
variable {P : Program} {w0 : World} {M O : Nat → Prop} {n : Nat} {K : Slots} {L : List Blk} {G : List (World → Prop)} {N : Act → World → Prop} {Q : Exit → Act → World → Prop} {ops : Array Oper}
  {d : Nat} {ty : TypeId} {pos : String} {af : Array Edge} {gd : Option (Nat × Bool)}
theorem Pw.insNew {t kt et : TypeId} {x ix y : Operand} {g : Nat} {k : Int} {v : Value} {m : List (Int × Value)} {L' : List Blk} (hx : ev K x = some (.map (some g))) (hix : ev K ix = some (.int .i64 k)) (hy : ev K y = some v) (ht : P.underlying t = some (.map kt et)) (hk : P.underlying kt = some (.int .i64)) (habs : ∀ p ∈ m, p.1 ≠ k) (hu : Upd L ⟨g, mapO m⟩ (mapO (m ++ [(k, v)])) L')
    (hw : wantB K ops gd = some true) (h : Pw w0 M O n K L' G N) : Pw w0 M O n K L G (OpG P ops ⟨none, .insert t x ix y, ty, pos, af, gd⟩ N Q) :=
  Pw.stepU hw rfl fun a w ha hs => by
    have hb := hs.own _ hu.mem
    obtain ⟨s1, s2⟩ := MapKept.heap_set (o' := mapO (m ++ [(k, v)])) hb
    exact ⟨L', G, { w with heap := w.heap.setIfInBounds g (mapO (m ++ [(k, v)])) }, by simp [execOp, ha.eval hx, ha.eval hix, ha.eval hy, mapNew_run ht hk hb habs], hs.turn hu ⟨rfl, rfl, rfl, by simp, fun b _ hn => s2 b hn, Nat.le_refl _⟩ s1, h⟩
end
attribute [local irreducible] Pw OpG
theorem nThere_ct (id : Int) : Ct Tryz.prog 24 #[.pointer none, .int .i64 id] (fun _ => True) (fun _ : Unit => .bool false) Tt (fun _ _ => True) := by
  refine Ct.start Tryz.func24 rfl rfl (slots_of rfl slots2) (fun D w0 => ?_)
  repeat (first | refine Pw.runs ?_ | refine Pw.list (Pw.box rfl rfl rfl rfl (fun _ => ?_)) | refine Pw.list (Pw.alloc rfl rfl rfl rfl rfl (fun _ => ?_)))
  exact Pw.ret_ (x := ()) (.tmp rfl .nil) rfl trivial (fun w h => by trivial)
theorem nKnown_ct (k : Int) : Ct Tryz.prog 43 #[.pointer none, .int .i64 k] (fun _ => True) (fun _ : Unit => .pointer none) Tt (fun _ _ => True) := by
  refine Ct.start Tryz.func43 rfl rfl (slots_of rfl slots2) (fun D w0 => ?_)
  repeat (first | refine Pw.runs ?_ | refine Pw.list (Pw.box rfl rfl rfl rfl (fun _ => ?_)) | refine Pw.list (Pw.alloc rfl rfl rfl rfl rfl (fun _ => ?_)))
  exact Pw.ret_ (x := ()) (.tmp rfl .nil) rfl trivial (fun w h => by trivial)
theorem nFind_ct (v : Int) : Ct Tryz.prog 46 #[.pointer none, .int .u64 v] (fun _ => True) (fun _ : Unit => .int .i64 (-1)) Tt (fun _ _ => True) := by
  refine Ct.start Tryz.func46 rfl rfl (slots_of rfl slots2) (fun D w0 => ?_)
  repeat (first | refine Pw.runs ?_ | refine Pw.list (Pw.box rfl rfl rfl rfl (fun _ => ?_)) | refine Pw.list (Pw.alloc rfl rfl rfl rfl rfl (fun _ => ?_)))
  exact Pw.ret_ (x := ()) (.tmp rfl .nil) rfl trivial (fun w h => by trivial)
theorem nAccount_ct (id : Int) : Ct Tryz.prog 5 #[.pointer none, .int .i64 id] (fun _ => True) (fun _ : Unit => .tuple #[.agg #[.int .u64 0, .int .u64 0, .int .u64 0, .slice none 0 0], .bool false]) Tt (fun _ _ => True) := by
  refine Ct.start Tryz.func5 rfl rfl (slots_of rfl slots2) (fun D w0 => ?_)
  repeat (first | refine Pw.runs ?_ | refine Pw.list (Pw.box rfl rfl rfl rfl (fun _ => ?_)) | refine Pw.list (Pw.alloc rfl rfl rfl rfl rfl (fun _ => ?_)))
  exact Pw.ret_ (x := ()) (.cell rfl (fun w hs => hs.own _ (.head _)) rfl (.tmp rfl .nil)) rfl trivial (fun w h => by trivial)
theorem nRole_ct (id : Int) : Ct Tryz.prog 6 #[.pointer none, .int .i64 id] (fun _ => True) (fun _ : Unit => .tuple #[.int .i64 0, .int .u64 0, .slice none 0 0]) Tt (fun _ _ => True) := by
  refine Ct.start Tryz.func6 rfl rfl (slots_of rfl slots2) (fun D w0 => ?_)
  repeat (first | refine Pw.runs ?_ | refine Pw.list (Pw.box rfl rfl rfl rfl (fun _ => ?_)) | refine Pw.list (Pw.alloc rfl rfl rfl rfl rfl (fun _ => ?_)))
  refine Pw.list (Pw.call (nThere_ct id) rfl rfl rfl (by kernel_rfl) rfl rfl (fun w h => trivial) ?_)
  intro _ _
  repeat (first | refine Pw.runs ?_ | refine Pw.list (Pw.box rfl rfl rfl rfl (fun _ => ?_)) | refine Pw.list (Pw.alloc rfl rfl rfl rfl rfl (fun _ => ?_)))
  exact Pw.ret_ (x := ()) (.tmp rfl (.tmp rfl (.tmp rfl .nil))) rfl trivial (fun w h => by trivial)
theorem nLast_ct : Ct Tryz.prog 7 #[.pointer none] (fun _ => True) (fun _ : Unit => .agg #[.slice none 0 0, .slice none 0 0, .int .u64 0, .int .u64 0, .int .u64 0, .int .u64 0, .int .i64 0, .slice none 0 0, .slice none 0 0]) Tt (fun _ _ => True) := by
  refine Ct.start Tryz.func7 rfl rfl (slots_of rfl slots1) (fun D w0 => ?_)
  repeat (first | refine Pw.runs ?_ | refine Pw.list (Pw.box rfl rfl rfl rfl (fun _ => ?_)) | refine Pw.list (Pw.alloc rfl rfl rfl rfl rfl (fun _ => ?_)))
  exact Pw.ret_ (x := ()) (.cell rfl (fun w hs => hs.own _ (.head _)) rfl .nil) rfl trivial (fun w h => by trivial)
theorem nSnapshot_ct : Ct Tryz.prog 16 #[.pointer none] (fun _ => True) (fun _ : Unit => .agg #[.slice none 0 0, .slice none 0 0]) Tt (fun _ _ => True) := by
  refine Ct.start Tryz.func16 rfl rfl (slots_of rfl slots1) (fun D w0 => ?_)
  repeat (first | refine Pw.runs ?_ | refine Pw.list (Pw.box rfl rfl rfl rfl (fun _ => ?_)) | refine Pw.list (Pw.alloc rfl rfl rfl rfl rfl (fun _ => ?_)))
  exact Pw.ret_ (x := ()) (.cell rfl (fun w hs => hs.own _ (.head _)) rfl .nil) rfl trivial (fun w h => by trivial)
theorem nDo_ct (k w a b c : Int) (v1 v2 : Value) : Ct Tryz.prog 8 #[.pointer none, .agg #[.int .i64 k, .int .i64 w, .int .u64 a, .int .u64 b, .int .u64 c, v1, v2]] (fun _ => True) (fun _ : Unit => .int .i64 1) Tt (fun _ _ => True) := by
  refine Ct.start Tryz.func8 rfl rfl (slots_of rfl slots2) (fun D w0 => ?_)
  repeat (first | refine Pw.runs ?_ | refine Pw.list (Pw.box rfl rfl rfl rfl (fun _ => ?_)) | refine Pw.list (Pw.alloc rfl rfl rfl rfl rfl (fun _ => ?_)))
  exact Pw.ret_ (x := ()) (.tmp rfl .nil) rfl trivial (fun w h => by trivial)
theorem nEra_ct : Ct Tryz.prog 10 #[.pointer none] (fun _ => True) (fun _ : Unit => .int .i64 0) Tt (fun _ _ => True) := by
  refine Ct.start Tryz.func10 rfl rfl (slots_of rfl slots1) (fun D w0 => ?_)
  repeat (first | refine Pw.runs ?_ | refine Pw.list (Pw.box rfl rfl rfl rfl (fun _ => ?_)) | refine Pw.list (Pw.alloc rfl rfl rfl rfl rfl (fun _ => ?_)))
  exact Pw.ret_ (x := ()) (.tmp rfl .nil) rfl trivial (fun w h => by trivial)
theorem nPhase_ct : Ct Tryz.prog 11 #[.pointer none] (fun _ => True) (fun _ : Unit => .int .i64 0) Tt (fun _ _ => True) := by
  refine Ct.start Tryz.func11 rfl rfl (slots_of rfl slots1) (fun D w0 => ?_)
  repeat (first | refine Pw.runs ?_ | refine Pw.list (Pw.box rfl rfl rfl rfl (fun _ => ?_)) | refine Pw.list (Pw.alloc rfl rfl rfl rfl rfl (fun _ => ?_)))
  exact Pw.ret_ (x := ()) (.tmp rfl .nil) rfl trivial (fun w h => by trivial)
theorem nTreasury_ct : Ct Tryz.prog 12 #[.pointer none] (fun _ => True) (fun _ : Unit => .int .u64 0) Tt (fun _ _ => True) := by
  refine Ct.start Tryz.func12 rfl rfl (slots_of rfl slots1) (fun D w0 => ?_)
  repeat (first | refine Pw.runs ?_ | refine Pw.list (Pw.box rfl rfl rfl rfl (fun _ => ?_)) | refine Pw.list (Pw.alloc rfl rfl rfl rfl rfl (fun _ => ?_)))
  exact Pw.ret_ (x := ()) (.tmp rfl .nil) rfl trivial (fun w h => by trivial)
theorem nPot_ct : Ct Tryz.prog 13 #[.pointer none] (fun _ => True) (fun _ : Unit => .int .u64 0) Tt (fun _ _ => True) := by
  refine Ct.start Tryz.func13 rfl rfl (slots_of rfl slots1) (fun D w0 => ?_)
  repeat (first | refine Pw.runs ?_ | refine Pw.list (Pw.box rfl rfl rfl rfl (fun _ => ?_)) | refine Pw.list (Pw.alloc rfl rfl rfl rfl rfl (fun _ => ?_)))
  exact Pw.ret_ (x := ()) (.tmp rfl .nil) rfl trivial (fun w h => by trivial)
theorem nIssuance_ct : Ct Tryz.prog 14 #[.pointer none] (fun _ => True) (fun _ : Unit => .int .u64 0) Tt (fun _ _ => True) := by
  refine Ct.start Tryz.func14 rfl rfl (slots_of rfl slots1) (fun D w0 => ?_)
  repeat (first | refine Pw.runs ?_ | refine Pw.list (Pw.box rfl rfl rfl rfl (fun _ => ?_)) | refine Pw.list (Pw.alloc rfl rfl rfl rfl rfl (fun _ => ?_)))
  exact Pw.ret_ (x := ()) (.tmp rfl .nil) rfl trivial (fun w h => by trivial)
theorem nOrder_ct : Ct Tryz.prog 15 #[.pointer none] (fun _ => True) (fun _ : Unit => .slice none 0 0) Tt (fun _ _ => True) := by
  refine Ct.start Tryz.func15 rfl rfl (slots_of rfl slots1) (fun D w0 => ?_)
  repeat (first | refine Pw.runs ?_ | refine Pw.list (Pw.box rfl rfl rfl rfl (fun _ => ?_)) | refine Pw.list (Pw.alloc rfl rfl rfl rfl rfl (fun _ => ?_)))
  exact Pw.ret_ (x := ()) (.tmp rfl .nil) rfl trivial (fun w h => by trivial)
theorem nDeferred_ct : Ct Tryz.prog 21 #[.pointer none] (fun _ => True) (fun _ : Unit => .slice none 0 0) Tt (fun _ _ => True) := by
  refine Ct.start Tryz.func21 rfl rfl (slots_of rfl slots1) (fun D w0 => ?_)
  repeat (first | refine Pw.runs ?_ | refine Pw.list (Pw.box rfl rfl rfl rfl (fun _ => ?_)) | refine Pw.list (Pw.alloc rfl rfl rfl rfl rfl (fun _ => ?_)))
  exact Pw.ret_ (x := ()) (.tmp rfl .nil) rfl trivial (fun w h => by trivial)
theorem nExposures_ct (k : Int) : Ct Tryz.prog 17 #[.pointer none, .int .i64 k] (fun _ => True) (fun _ : Unit => .slice none 0 0) Tt (fun _ _ => True) := by
  refine Ct.start Tryz.func17 rfl rfl (slots_of rfl slots2) (fun D w0 => ?_)
  repeat (first | refine Pw.runs ?_ | refine Pw.list (Pw.box rfl rfl rfl rfl (fun _ => ?_)) | refine Pw.list (Pw.alloc rfl rfl rfl rfl rfl (fun _ => ?_)))
  refine Pw.list (Pw.call (nKnown_ct k) rfl rfl rfl (by kernel_rfl) rfl rfl (fun w h => trivial) ?_)
  intro _ _
  repeat (first | refine Pw.runs ?_ | refine Pw.list (Pw.box rfl rfl rfl rfl (fun _ => ?_)) | refine Pw.list (Pw.alloc rfl rfl rfl rfl rfl (fun _ => ?_)))
  exact Pw.ret_ (x := ()) (.tmp rfl .nil) rfl trivial (fun w h => by trivial)
theorem nPoints_ct (k v : Int) : Ct Tryz.prog 18 #[.pointer none, .int .i64 k, .int .i64 v] (fun _ => True) (fun _ : Unit => .int .u64 0) Tt (fun _ _ => True) := by
  refine Ct.start Tryz.func18 rfl rfl (slots_of rfl slots3) (fun D w0 => ?_)
  repeat (first | refine Pw.runs ?_ | refine Pw.list (Pw.box rfl rfl rfl rfl (fun _ => ?_)) | refine Pw.list (Pw.alloc rfl rfl rfl rfl rfl (fun _ => ?_)))
  refine Pw.list (Pw.call (nKnown_ct k) rfl rfl rfl (by kernel_rfl) rfl rfl (fun w h => trivial) ?_)
  intro _ _
  repeat (first | refine Pw.runs ?_ | refine Pw.list (Pw.box rfl rfl rfl rfl (fun _ => ?_)) | refine Pw.list (Pw.alloc rfl rfl rfl rfl rfl (fun _ => ?_)))
  refine Pw.list (Pw.call (nFind_ct _) rfl rfl rfl (by kernel_rfl) rfl rfl (fun w h => trivial) ?_)
  intro _ _
  repeat (first | refine Pw.runs ?_ | refine Pw.list (Pw.box rfl rfl rfl rfl (fun _ => ?_)) | refine Pw.list (Pw.alloc rfl rfl rfl rfl rfl (fun _ => ?_)))
  exact Pw.ret_ (x := ()) (.tmp rfl .nil) rfl trivial (fun w h => by trivial)
theorem nPaid_ct (k v p : Int) : Ct Tryz.prog 19 #[.pointer none, .int .i64 k, .int .i64 v, .int .i64 p] (fun _ => True) (fun _ : Unit => .bool false) Tt (fun _ _ => True) := by
  refine Ct.start Tryz.func19 rfl rfl (slots_of rfl slots4) (fun D w0 => ?_)
  repeat (first | refine Pw.runs ?_ | refine Pw.list (Pw.box rfl rfl rfl rfl (fun _ => ?_)) | refine Pw.list (Pw.alloc rfl rfl rfl rfl rfl (fun _ => ?_)))
  refine Pw.list (Pw.call (nKnown_ct k) rfl rfl rfl (by kernel_rfl) rfl rfl (fun w h => trivial) ?_)
  intro _ _
  repeat (first | refine Pw.runs ?_ | refine Pw.list (Pw.box rfl rfl rfl rfl (fun _ => ?_)) | refine Pw.list (Pw.alloc rfl rfl rfl rfl rfl (fun _ => ?_)))
  exact Pw.ret_ (x := ()) (.tmp rfl .nil) rfl trivial (fun w h => by trivial)
theorem nCharged_ct (k v : Int) : Ct Tryz.prog 20 #[.pointer none, .int .i64 k, .int .i64 v] (fun _ => True) (fun _ : Unit => .int .u64 0) Tt (fun _ _ => True) := by
  refine Ct.start Tryz.func20 rfl rfl (slots_of rfl slots3) (fun D w0 => ?_)
  repeat (first | refine Pw.runs ?_ | refine Pw.list (Pw.box rfl rfl rfl rfl (fun _ => ?_)) | refine Pw.list (Pw.alloc rfl rfl rfl rfl rfl (fun _ => ?_)))
  refine Pw.list (Pw.call (nThere_ct k) rfl rfl rfl (by kernel_rfl) rfl rfl (fun w h => trivial) ?_)
  intro _ _
  repeat (first | refine Pw.runs ?_ | refine Pw.list (Pw.box rfl rfl rfl rfl (fun _ => ?_)) | refine Pw.list (Pw.alloc rfl rfl rfl rfl rfl (fun _ => ?_)))
  exact Pw.ret_ (x := ()) (.tmp rfl .nil) rfl trivial (fun w h => by trivial)
/-! ### Parts of a new engine -/
theorem eWithin_ct (n a b : Int) (h : a ≤ n ∧ n ≤ b) : Ct Tryz.prog 51 #[.int .i64 n, .int .i64 a, .int .i64 b] (fun _ => True) (fun _ : Unit => .bool true) Tt (fun _ _ => True) := by
  refine Ct.start Tryz.func51 rfl rfl (slots_of rfl slots3) (fun D w0 => ?_)
  repeat (first | refine Pw.runs ?_ | refine Pw.list (Pw.box rfl rfl rfl rfl (fun _ => ?_)) | refine Pw.list (Pw.alloc rfl rfl rfl rfl rfl (fun _ => ?_)))
  refine Pw.split 10 rfl (fun c1 => ?_) (fun c1 => absurd h.1 c1)
  repeat (first | refine Pw.runs ?_ | refine Pw.list (Pw.box rfl rfl rfl rfl (fun _ => ?_)) | refine Pw.list (Pw.alloc rfl rfl rfl rfl rfl (fun _ => ?_)))
  exact Pw.ret_ (x := ()) (.tmp rfl .nil) (congrArg Value.bool (decide_eq_true h.2)) trivial (fun w h => by trivial)
theorem bNil_ct : Ct Tryz.prog 50 #[.slice none 0 0] (fun _ => True) (fun _ : Unit => .bool true) Tt (fun _ _ => True) := by
  refine Ct.start Tryz.func50 rfl rfl (slots_of rfl slots1) (fun D w0 => ?_)
  repeat (first | refine Pw.runs ?_ | refine Pw.list (Pw.box rfl rfl rfl rfl (fun _ => ?_)) | refine Pw.list (Pw.alloc rfl rfl rfl rfl rfl (fun _ => ?_)))
  refine Pw.rounds 2 (Pw.round ?_)
  repeat (first | refine Pw.runs ?_ | refine Pw.list (Pw.box rfl rfl rfl rfl (fun _ => ?_)) | refine Pw.list (Pw.alloc rfl rfl rfl rfl rfl (fun _ => ?_)))
  exact Pw.ret_ (x := ()) (.tmp rfl .nil) rfl trivial (fun w h => by trivial)
theorem sNew_ct : Ct Tryz.prog 53 #[] (fun _ => True) (fun g : Nat => .pointer (some ⟨g, 0, none⟩)) Tt (fun _ _ => True) := by
  refine Ct.start Tryz.func53 rfl rfl (slots_of rfl slots0) (fun D w0 => ?_)
  repeat (first | refine Pw.runs ?_ | refine Pw.list (Pw.box rfl rfl rfl rfl (fun _ => ?_)) | refine Pw.list (Pw.alloc rfl rfl rfl rfl rfl (fun _ => ?_)))
  rename_i g
  exact Pw.ret_ (x := g) (.tmp rfl .nil) rfl trivial (fun w h => by trivial)
theorem cNew_ct : Ct Tryz.prog 90 #[] (fun _ => True) (fun g : Nat => .pointer (some ⟨g, 0, none⟩)) Tt (fun _ _ => True) := by
  refine Ct.start Tryz.func90 rfl rfl (slots_of rfl slots0) (fun D w0 => ?_)
  repeat (first | refine Pw.runs ?_ | refine Pw.list (Pw.box rfl rfl rfl rfl (fun _ => ?_)) | refine Pw.list (Pw.alloc rfl rfl rfl rfl rfl (fun _ => ?_)))
  rename_i g
  exact Pw.ret_ (x := g) (.tmp rfl .nil) rfl trivial (fun w h => by trivial)
theorem cl64_ct : Ct Tryz.prog 74 #[.slice none 0 0] (fun _ => True) (fun _ : Unit => .slice none 0 0) Tt (fun _ _ => True) := by
  refine Ct.start Tryz.func74 rfl rfl (slots_of rfl slots1) (fun D w0 => ?_)
  repeat (first | refine Pw.runs ?_ | refine Pw.list (Pw.box rfl rfl rfl rfl (fun _ => ?_)) | refine Pw.list (Pw.alloc rfl rfl rfl rfl rfl (fun _ => ?_)))
  exact Pw.ret_ (x := ()) (.tmp rfl .nil) rfl trivial (fun w h => by trivial)
theorem clCh_ct : Ct Tryz.prog 55 #[.slice none 0 0] (fun _ => True) (fun _ : Unit => .slice none 0 0) Tt (fun _ _ => True) := by
  refine Ct.start Tryz.func55 rfl rfl (slots_of rfl slots1) (fun D w0 => ?_)
  repeat (first | refine Pw.runs ?_ | refine Pw.list (Pw.box rfl rfl rfl rfl (fun _ => ?_)) | refine Pw.list (Pw.alloc rfl rfl rfl rfl rfl (fun _ => ?_)))
  exact Pw.ret_ (x := ()) (.tmp rfl .nil) rfl trivial (fun w h => by trivial)
end Go.Proofs.Wk
/- A new engine, at one balance of 5. -/
namespace Go.Proofs.Wk
open Go.RowKit
set_option maxRecDepth 100000
set_option maxHeartbeats 8000000
set_option linter.unusedVariables false
set_option linter.unusedSimpArgs false
attribute [local irreducible] Pw OpG
theorem u5 : ∀ n ∈ [(5 : Int)], U64 n := fun n hn => by rw [List.mem_singleton.1 hn]; exact ⟨by decide, by decide⟩
theorem sum5 : sumM [5] = (5, 0) := by decide
structure Lg where
  gl : Nat
  ga : Nat
  ca : Nat
  ex : List Value
abbrev acB (a : Lg) (f b : Int) : Blk := ⟨a.ga, row (.int .u64 f :: .int .u64 b :: .int .u64 0 :: .slice none 0 0 :: a.ex) 31⟩
def lgF (a : Lg) (W : World) : Prop := W.heap[a.gl]? = some (row [.slice (some ⟨a.ga, 0, none⟩) 1 a.ca, .int .u64 0, .int .u64 0, .int .u64 5] 116)
theorem lNew1_ct (z : Option Addr × Nat) : CtB Tryz.prog 49 #[sl [5] z] [] (U1 [5] z) (fun a : Lg => .tuple #[.pointer (some ⟨a.gl, 0, none⟩), .int .i64 0]) Tt (fun a => [acB a 5 0]) (fun a => lgF a) := by
  obtain ⟨A, c⟩ := z
  refine CtB.start Tryz.func49 rfl rfl (slots_of rfl slots1) (fun D w0 => ?_)
  repeat (first | refine Pw.runs ?_ | refine Pw.list (Pw.box rfl rfl rfl rfl (fun _ => ?_)) | refine Pw.list (Pw.alloc rfl rfl rfl rfl rfl (fun _ => ?_)))
  refine Pw.list (Pw.call (mSum_ct [5] (A, c) u5) rfl rfl rfl (by kernel_rfl) rfl rfl (fun w h => (hv w h)) ?_)
  intro _ _
  rw [sum5]
  repeat (first | refine Pw.runs ?_ | refine Pw.list (Pw.box rfl rfl rfl rfl (fun _ => ?_)) | refine Pw.list (Pw.alloc rfl rfl rfl rfl rfl (fun _ => ?_)))
  rename_i gl
  refine Pw.use (p := A.isSome = true) (fun w h => (hv w h : U1 [5] (A, c) w).has (i := 0) (Int.le_refl 0) (by show (0 : Int) < 1; omega)) (fun hA => ?_)
  obtain ⟨ad, rfl⟩ := Option.isSome_iff_exists.1 hA
  refine Pw.rounds 3 (Pw.round ?_)
  repeat (first | refine Pw.runs ?_ | refine Pw.list (Pw.box rfl rfl rfl rfl (fun _ => ?_)) | refine Pw.list (Pw.alloc rfl rfl rfl rfl rfl (fun _ => ?_)))
  refine Pw.list (Pw.indexS rfl rfl rfl rfl (Int.le_refl 0) (by show (0 : Int) < 1; omega) rfl rfl ?_)
  refine Pw.list (Pw.load1 rfl rfl (fun w hs => (hv w hs.all : U1 [5] (some ad, c) w).cell (i := 0) (Int.le_refl 0) (by show (0 : Int) < 1; omega)) rfl rfl ?_)
  refine Pw.re (d := 28) (v' := .int .u64 5) rfl rfl ?_
  repeat (first | refine Pw.runs ?_ | refine Pw.list (Pw.box rfl rfl rfl rfl (fun _ => ?_)) | refine Pw.list (Pw.alloc rfl rfl rfl rfl rfl (fun _ => ?_)))
  refine Pw.list (Pw.lit14 rfl rfl rfl rfl rfl rfl rfl rfl rfl (fun g2 => freeHead ?_))
  refine Pw.list (Pw.push (s := none) (m := 0) (cells := []) (news := [.int .u64 5, .int .u64 0, .int .u64 0, .slice none 0 0]) rfl rfl rfl rfl rfl rfl rfl ⟨rfl, rfl⟩ rfl (fun u hu => by
    simp only [List.mem_cons, List.not_mem_nil, or_false] at hu
    rcases hu with rfl | rfl | rfl | rfl <;> rfl) (fun w hs j u hu => by
    have h1 : w.heap[g2]? = some (row [.int .u64 5, .int .u64 0, .int .u64 0, .slice none 0 0] 31) := fact0 hs.all
    rw [add_none, cell_of_blk h1]
    simpa using hu) (by omega) (by simp only [maxLen]; omega) (by show 1 * 48 ≤ _; omega) rfl rfl (fun q hq => ?_))
  obtain _ | ⟨ga, ca, ex⟩ := q
  · have := hq.1; omega
  refine Pw.eqL (L' := [⟨ga, row (.int .u64 5 :: .int .u64 0 :: .int .u64 0 :: .slice none 0 0 :: ex) 31⟩, ⟨gl, row [.slice none 0 0, .int .u64 0, .int .u64 0, .int .u64 5] 116⟩]) rfl ?_
  refine Pw.re (d := 37) (v' := .slice (some ⟨ga, 0, none⟩) 1 ca) rfl rfl ?_
  repeat (first | refine Pw.runs ?_ | refine Pw.list (Pw.box rfl rfl rfl rfl (fun _ => ?_)) | refine Pw.list (Pw.alloc rfl rfl rfl rfl rfl (fun _ => ?_)))
  refine Pw.re (d := 25) (v' := .int .i64 1) rfl (congrArg (Value.int .i64) (by unfold wrap64; omega)) ?_
  refine Pw.round ?_
  repeat (first | refine Pw.runs ?_ | refine Pw.list (Pw.box rfl rfl rfl rfl (fun _ => ?_)) | refine Pw.list (Pw.alloc rfl rfl rfl rfl rfl (fun _ => ?_)))
  refine Pw.perm (List.Perm.swap _ _ _) ?_
  refine freeHead ?_
  exact Pw.retB (x := (⟨gl, ga, ca, ex⟩ : Lg)) (p := Tt) (bl := fun a : Lg => [acB a 5 0]) (Ψ := fun a => lgF a) (List.Sublist.refl _) (.tmp rfl (.tmp rfl .nil)) rfl trivial (fun w h => fact0 h)
structure Vo where
  gv : Nat
  gm : Nat
  rw_ : Value
def voF (a : Vo) (W : World) : Prop := W.heap[a.gv]? = some (row [.slice none 0 0, a.rw_, .map (some a.gm)] 153) ∧ W.heap[a.gm]? = some (mapO [])
theorem vNew_ct : Ct Tryz.prog 52 #[.slice none 0 0] (fun _ => True) (fun a : Vo => .tuple #[.pointer (some ⟨a.gv, 0, none⟩), .int .i64 0]) Tt (fun a => voF a) := by
  refine Ct.start Tryz.func52 rfl rfl (slots_of rfl slots1) (fun D w0 => ?_)
  repeat (first | refine Pw.runs ?_ | refine Pw.list (Pw.box rfl rfl rfl rfl (fun _ => ?_)) | refine Pw.list (Pw.alloc rfl rfl rfl rfl rfl (fun _ => ?_)))
  refine Pw.list (Pw.call bNil_ct rfl rfl rfl (by kernel_rfl) rfl rfl (fun w h => trivial) ?_)
  intro _ _
  repeat (first | refine Pw.runs ?_ | refine Pw.list (Pw.box rfl rfl rfl rfl (fun _ => ?_)) | refine Pw.list (Pw.alloc rfl rfl rfl rfl rfl (fun _ => ?_)))
  refine Pw.list (Pw.call cl64_ct rfl rfl rfl (by kernel_rfl) rfl rfl (fun w h => trivial) ?_)
  intro _ _
  refine Pw.list (Pw.makeMap rfl rfl (fun gm => freeHead ?_))
  repeat (first | refine Pw.runs ?_ | refine Pw.list (Pw.box rfl rfl rfl rfl (fun _ => ?_)) | refine Pw.list (Pw.alloc rfl rfl rfl rfl rfl (fun _ => ?_)))
  rename_i gv
  refine Pw.re (d := 15) (v' := .int .i64 1) rfl (congrArg (Value.int .i64) (by unfold wrap64; omega)) ?_
  refine Pw.rounds 3 (Pw.round ?_)
  repeat (first | refine Pw.runs ?_ | refine Pw.list (Pw.box rfl rfl rfl rfl (fun _ => ?_)) | refine Pw.list (Pw.alloc rfl rfl rfl rfl rfl (fun _ => ?_)))
  refine Pw.joinQ (σ := Value) (fun _ => True) (fun q => ⟨[(4, .pointer (some ⟨gv, 0, none⟩)), (15, .int .i64 1), (16, .int .i64 0)], [⟨gv, row [.slice none 0 0, q, .map (some gm)] 153⟩], [fun W => W.heap[gm]? = some (mapO [])]⟩) ?_ ?_
  · skip
    refine Pw.drawnG mixed rfl rfl ?_
    refine Pw.takeP 0 (nb 11 1) rfl rfl rfl rfl (by kernel_rfl) np sf ?_
    refine Pw.takeP 1 (nb 11 3) rfl rfl rfl rfl (by kernel_rfl) np sf ?_
    refine Pw.takeP 2 (nb 11 7) rfl rfl rfl rfl (by kernel_rfl) np sf ?_
    refine Pw.takeP 3 (nb 11 15) rfl rfl rfl rfl (by kernel_rfl) np sf ?_
    refine Pw.two 4 5 (nb 11 31) (nb 11 47) rfl rfl (by kernel_rfl) ?_ ?_
    · skip
      refine Pw.loadO (g := gv) (i := 1) (cs := [.slice none 0 0, .slice none 0 0, .map (some gm)]) (t := 153) rfl rfl (.head _) rfl rfl rfl ?_
      refine Pw.held sf ?_
      refine Pw.one 5 (nb 11 63) rfl (by kernel_rfl) ?_
      refine Pw.call cNew_ct rfl rfl rfl (by kernel_rfl) rfl rfl (fun w h => trivial) ?_
      intro gc _
      refine Pw.held sf ?_
      refine Pw.one 6 (nb 11 127) rfl (by kernel_rfl) ?_
      refine Pw.lit1 rfl rfl rfl rfl rfl rfl rfl rfl rfl (fun g2 => freeHead ?_)
      refine Pw.held sf ?_
      refine Pw.one 7 (nb 11 255) rfl (by kernel_rfl) ?_
      refine Pw.push (s := none) (m := 0) (cells := []) (news := [.pointer (some ⟨gc, 0, none⟩)]) rfl rfl rfl rfl rfl rfl rfl ⟨rfl, rfl⟩ rfl (fun u hu => by rw [List.mem_singleton.1 hu]; rfl) (fun w hs j u hu => by
        have h1 : w.heap[g2]? = some (row [.pointer (some ⟨gc, 0, none⟩)] 164) := fact0 hs.all
        rw [add_none, cell_of_blk h1]
        simpa using hu) (by omega) (by simp only [maxLen]; omega) (by show 1 * 8 ≤ _; omega) rfl rfl (fun q hq => ?_)
      obtain _ | ⟨gq, cq, exq⟩ := q
      · have := hq.1; omega
      refine Pw.eqL (L' := [⟨gq, row (.pointer (some ⟨gc, 0, none⟩) :: exq) 164⟩, ⟨gv, row [.slice none 0 0, .slice none 0 0, .map (some gm)] 153⟩]) rfl ?_
      refine freeHead ?_
      refine Pw.re (d := 25) (v' := .slice (some ⟨gq, 0, none⟩) 1 cq) rfl rfl ?_
      refine Pw.held sf ?_
      refine Pw.takeP 8 (nb 11 511) rfl rfl rfl rfl (by kernel_rfl) np sf ?_
      refine Pw.takeP 9 (nb 11 1023) rfl rfl rfl rfl (by kernel_rfl) np sf ?_
      refine Pw.one 10 (nb 11 2047) rfl (by kernel_rfl) ?_
      refine Pw.storeO rfl rfl rfl rfl rfl (by show 1 < 3; omega) rfl .head rfl ?_
      refine Pw.held sf ?_
      refine Pw.done (by kernel_rfl) ?_
      exact Pw.then_ (Pw.arrive (Value.slice (some ⟨gq, 0, none⟩) 1 cq) trivial ⟨rfl, rfl, rfl, trivial⟩ rfl (fun w h => allCons (fx h) allNil))
    · skip
      refine Pw.call cNew_ct rfl rfl rfl (by kernel_rfl) rfl rfl (fun w h => trivial) ?_
      intro gc _
      refine Pw.held sf ?_
      refine Pw.two 4 6 (nb 11 63) (nb 11 111) rfl rfl (by kernel_rfl) ?_ ?_
      · skip
        refine Pw.loadO (g := gv) (i := 1) (cs := [.slice none 0 0, .slice none 0 0, .map (some gm)]) (t := 153) rfl rfl (.head _) rfl rfl rfl ?_
        refine Pw.held sf ?_
        refine Pw.one 6 (nb 11 127) rfl (by kernel_rfl) ?_
        refine Pw.lit1 rfl rfl rfl rfl rfl rfl rfl rfl rfl (fun g2 => freeHead ?_)
        refine Pw.held sf ?_
        refine Pw.one 7 (nb 11 255) rfl (by kernel_rfl) ?_
        refine Pw.push (s := none) (m := 0) (cells := []) (news := [.pointer (some ⟨gc, 0, none⟩)]) rfl rfl rfl rfl rfl rfl rfl ⟨rfl, rfl⟩ rfl (fun u hu => by rw [List.mem_singleton.1 hu]; rfl) (fun w hs j u hu => by
          have h1 : w.heap[g2]? = some (row [.pointer (some ⟨gc, 0, none⟩)] 164) := fact0 hs.all
          rw [add_none, cell_of_blk h1]
          simpa using hu) (by omega) (by simp only [maxLen]; omega) (by show 1 * 8 ≤ _; omega) rfl rfl (fun q hq => ?_)
        obtain _ | ⟨gq, cq, exq⟩ := q
        · have := hq.1; omega
        refine Pw.eqL (L' := [⟨gq, row (.pointer (some ⟨gc, 0, none⟩) :: exq) 164⟩, ⟨gv, row [.slice none 0 0, .slice none 0 0, .map (some gm)] 153⟩]) rfl ?_
        refine freeHead ?_
        refine Pw.re (d := 25) (v' := .slice (some ⟨gq, 0, none⟩) 1 cq) rfl rfl ?_
        refine Pw.held sf ?_
        refine Pw.takeP 8 (nb 11 511) rfl rfl rfl rfl (by kernel_rfl) np sf ?_
        refine Pw.takeP 9 (nb 11 1023) rfl rfl rfl rfl (by kernel_rfl) np sf ?_
        refine Pw.one 10 (nb 11 2047) rfl (by kernel_rfl) ?_
        refine Pw.storeO rfl rfl rfl rfl rfl (by show 1 < 3; omega) rfl .head rfl ?_
        refine Pw.held sf ?_
        refine Pw.done (by kernel_rfl) ?_
        exact Pw.then_ (Pw.arrive (Value.slice (some ⟨gq, 0, none⟩) 1 cq) trivial ⟨rfl, rfl, rfl, trivial⟩ rfl (fun w h => allCons (fx h) allNil))
      · skip
        refine Pw.lit1 rfl rfl rfl rfl rfl rfl rfl rfl rfl (fun g2 => freeHead ?_)
        refine Pw.held sf ?_
        refine Pw.one 4 (nb 11 127) rfl (by kernel_rfl) ?_
        refine Pw.loadO (g := gv) (i := 1) (cs := [.slice none 0 0, .slice none 0 0, .map (some gm)]) (t := 153) rfl rfl (.head _) rfl rfl rfl ?_
        refine Pw.held sf ?_
        refine Pw.one 7 (nb 11 255) rfl (by kernel_rfl) ?_
        refine Pw.push (s := none) (m := 0) (cells := []) (news := [.pointer (some ⟨gc, 0, none⟩)]) rfl rfl rfl rfl rfl rfl rfl ⟨rfl, rfl⟩ rfl (fun u hu => by rw [List.mem_singleton.1 hu]; rfl) (fun w hs j u hu => by
          have h1 : w.heap[g2]? = some (row [.pointer (some ⟨gc, 0, none⟩)] 164) := fact0 hs.all
          rw [add_none, cell_of_blk h1]
          simpa using hu) (by omega) (by simp only [maxLen]; omega) (by show 1 * 8 ≤ _; omega) rfl rfl (fun q hq => ?_)
        obtain _ | ⟨gq, cq, exq⟩ := q
        · have := hq.1; omega
        refine Pw.eqL (L' := [⟨gq, row (.pointer (some ⟨gc, 0, none⟩) :: exq) 164⟩, ⟨gv, row [.slice none 0 0, .slice none 0 0, .map (some gm)] 153⟩]) rfl ?_
        refine freeHead ?_
        refine Pw.re (d := 25) (v' := .slice (some ⟨gq, 0, none⟩) 1 cq) rfl rfl ?_
        refine Pw.held sf ?_
        refine Pw.takeP 8 (nb 11 511) rfl rfl rfl rfl (by kernel_rfl) np sf ?_
        refine Pw.takeP 9 (nb 11 1023) rfl rfl rfl rfl (by kernel_rfl) np sf ?_
        refine Pw.one 10 (nb 11 2047) rfl (by kernel_rfl) ?_
        refine Pw.storeO rfl rfl rfl rfl rfl (by show 1 < 3; omega) rfl .head rfl ?_
        refine Pw.held sf ?_
        refine Pw.done (by kernel_rfl) ?_
        exact Pw.then_ (Pw.arrive (Value.slice (some ⟨gq, 0, none⟩) 1 cq) trivial ⟨rfl, rfl, rfl, trivial⟩ rfl (fun w h => allCons (fx h) allNil))
  intro q _
  dsimp only
  repeat (first | refine Pw.runs ?_ | refine Pw.list (Pw.box rfl rfl rfl rfl (fun _ => ?_)) | refine Pw.list (Pw.alloc rfl rfl rfl rfl rfl (fun _ => ?_)))
  refine Pw.re (d := 16) (v' := .int .i64 1) rfl (congrArg (Value.int .i64) (by unfold wrap64; omega)) ?_
  refine Pw.round ?_
  repeat (first | refine Pw.runs ?_ | refine Pw.list (Pw.box rfl rfl rfl rfl (fun _ => ?_)) | refine Pw.list (Pw.alloc rfl rfl rfl rfl rfl (fun _ => ?_)))
  refine freeHead ?_
  exact Pw.ret_ (x := (⟨gv, gm, q⟩ : Vo)) (.tmp rfl (.tmp rfl .nil)) rfl trivial (fun w h => ⟨fact0 h, (fx h)⟩)
end Go.Proofs.Wk
/- A new engine, at one balance of 5: engine.New walked. -/
namespace Go.Proofs.Wk
open Go.RowKit
set_option maxRecDepth 100000
set_option maxHeartbeats 8000000
set_option linter.unusedVariables false
set_option linter.unusedSimpArgs false
attribute [local irreducible] Pw OpG
structure Eg where
  lg : Lg
  vo : Vo
  gE : Nat
  ac : Option Addr × Nat
  ge : Nat
  zb : Value
abbrev cfgL (zb : Value) : List Value := [.int .i64 1, .int .i64 1, .slice none 0 0, zb, .int .u64 0, .int .u64 1, .int .u64 0, .int .i64 1, .int .i64 0, .int .i64 0, .int .i64 0]
abbrev cE (zb : Value) (gl gv : Nat) (acc : Value) (ge : Nat) : List Value := [.int .i64 1, .int .i64 1, .slice none 0 0, zb, .int .u64 0, .int .u64 1, .int .u64 0, .int .i64 1, .int .i64 0, .int .i64 0, .int .i64 0,
  .pointer (some ⟨gl, 0, none⟩), .pointer (some ⟨gv, 0, none⟩), acc, .int .i64 0, .int .i64 0, .map (some ge), .pointer none, .slice none 0 0, .slice none 0 0, .slice none 0 0, .slice none 0 0, .int .u64 0, .int .u64 0, .int .u64 0, .int .u64 0, .int .i64 0, .slice none 0 0, .slice none 0 0, .slice none 0 0]
def egF (a : Eg) (W : World) : Prop := W.heap[a.gE]? = some (row (cE a.zb a.lg.gl a.vo.gv (.slice a.ac.1 1 a.ac.2) a.ge) 73) ∧ lgF a.lg W ∧ voF a.vo W
theorem eNew_ct (z : Option Addr × Nat) : CtB Tryz.prog 22 #[.agg (cfgL (sl [5] z)).toArray] [] (U1 [5] z) (fun a : Eg => .tuple #[.pointer (some ⟨a.gE, 0, none⟩), .int .i64 0]) Tt (fun a => [acB a.lg 5 0]) (fun a => egF a) := by
  obtain ⟨A, c⟩ := z
  refine CtB.start Tryz.func22 rfl rfl (slots_of rfl slots1) (fun D w0 => ?_)
  try refine Pw.run ?_
  refine Pw.list (Pw.box rfl rfl rfl rfl (fun g1 => freeHead ?_))
  repeat (first | refine Pw.runs ?_ | refine Pw.list (Pw.box rfl rfl rfl rfl (fun _ => ?_)) | refine Pw.list (Pw.alloc rfl rfl rfl rfl rfl (fun _ => ?_)))
  refine Pw.list (Pw.callB (L0 := []) (lNew1_ct (A, c)) rfl rfl rfl rfl (by kernel_rfl) rfl rfl (fun w h => (hv w h : U1 [5] (A, c) w)) ?_)
  rintro lg _
  refine Pw.eqL (L' := [acB lg 5 0]) rfl ?_
  repeat (first | refine Pw.runs ?_ | refine Pw.list (Pw.box rfl rfl rfl rfl (fun _ => ?_)) | refine Pw.list (Pw.alloc rfl rfl rfl rfl rfl (fun _ => ?_)))
  refine Pw.list (Pw.call bNil_ct rfl rfl rfl (by kernel_rfl) rfl rfl (fun w h => trivial) ?_)
  intro _ _
  repeat (first | refine Pw.runs ?_ | refine Pw.list (Pw.box rfl rfl rfl rfl (fun _ => ?_)) | refine Pw.list (Pw.alloc rfl rfl rfl rfl rfl (fun _ => ?_)))
  refine Pw.list (Pw.call (eWithin_ct 1 1 8 ⟨by decide, by decide⟩) rfl rfl rfl (by kernel_rfl) rfl rfl (fun w h => trivial) ?_)
  intro _ _
  repeat (first | refine Pw.runs ?_ | refine Pw.list (Pw.box rfl rfl rfl rfl (fun _ => ?_)) | refine Pw.list (Pw.alloc rfl rfl rfl rfl rfl (fun _ => ?_)))
  refine Pw.list (Pw.call (eWithin_ct 1 1 32 ⟨by decide, by decide⟩) rfl rfl rfl (by kernel_rfl) rfl rfl (fun w h => trivial) ?_)
  intro _ _
  repeat (first | refine Pw.runs ?_ | refine Pw.list (Pw.box rfl rfl rfl rfl (fun _ => ?_)) | refine Pw.list (Pw.alloc rfl rfl rfl rfl rfl (fun _ => ?_)))
  refine Pw.list (Pw.call (eWithin_ct 1 1 28 ⟨by decide, by decide⟩) rfl rfl rfl (by kernel_rfl) rfl rfl (fun w h => trivial) ?_)
  intro _ _
  repeat (first | refine Pw.runs ?_ | refine Pw.list (Pw.box rfl rfl rfl rfl (fun _ => ?_)) | refine Pw.list (Pw.alloc rfl rfl rfl rfl rfl (fun _ => ?_)))
  refine Pw.list (Pw.call (eWithin_ct 0 0 1 ⟨by decide, by decide⟩) rfl rfl rfl (by kernel_rfl) rfl rfl (fun w h => trivial) ?_)
  intro _ _
  repeat (first | refine Pw.runs ?_ | refine Pw.list (Pw.box rfl rfl rfl rfl (fun _ => ?_)) | refine Pw.list (Pw.alloc rfl rfl rfl rfl rfl (fun _ => ?_)))
  refine Pw.list (Pw.call (eWithin_ct 0 0 16 ⟨by decide, by decide⟩) rfl rfl rfl (by kernel_rfl) rfl rfl (fun w h => trivial) ?_)
  intro _ _
  repeat (first | refine Pw.runs ?_ | refine Pw.list (Pw.box rfl rfl rfl rfl (fun _ => ?_)) | refine Pw.list (Pw.alloc rfl rfl rfl rfl rfl (fun _ => ?_)))
  refine Pw.list (Pw.call (eWithin_ct 0 0 32 ⟨by decide, by decide⟩) rfl rfl rfl (by kernel_rfl) rfl rfl (fun w h => trivial) ?_)
  intro _ _
  repeat (first | refine Pw.runs ?_ | refine Pw.list (Pw.box rfl rfl rfl rfl (fun _ => ?_)) | refine Pw.list (Pw.alloc rfl rfl rfl rfl rfl (fun _ => ?_)))
  refine Pw.facts (G' := [fun W => W.heap[g1]? = some (row (cfgL (sl [5] (A, c))) 65), lgF lg]) (fun w h => allCons (fx h) (allCons (hv w h : lgF lg w) allNil)) ?_
  refine Pw.list (Pw.call vNew_ct rfl rfl rfl (by kernel_rfl) rfl rfl (fun w h => trivial) ?_)
  rintro vo _
  repeat (first | refine Pw.runs ?_ | refine Pw.list (Pw.box rfl rfl rfl rfl (fun _ => ?_)) | refine Pw.list (Pw.alloc rfl rfl rfl rfl rfl (fun _ => ?_)))
  refine Pw.list (Pw.makeMap rfl rfl (fun ge => ?_))
  repeat (first | refine Pw.runs ?_ | refine Pw.list (Pw.box rfl rfl rfl rfl (fun _ => ?_)) | refine Pw.list (Pw.alloc rfl rfl rfl rfl rfl (fun _ => ?_)))
  refine Pw.list (Pw.insNew (m := []) rfl rfl rfl rfl rfl (fun p hp => by cases hp) (.tail .head) rfl ?_)
  refine freeHead ?_
  refine freeHead ?_
  repeat (first | refine Pw.runs ?_ | refine Pw.list (Pw.box rfl rfl rfl rfl (fun _ => ?_)) | refine Pw.list (Pw.alloc rfl rfl rfl rfl rfl (fun _ => ?_)))
  rename_i gE
  refine Pw.facts (G' := [fun W => W.heap[g1]? = some (row (cfgL (sl [5] (A, c))) 65), lgF lg, voF vo]) (fun w h => allCons (fx h) (allCons (hv w h : lgF lg w) (allCons (hv w h : voF vo w) allNil))) ?_
  refine Pw.rounds 3 (Pw.round ?_)
  repeat (first | refine Pw.runs ?_ | refine Pw.list (Pw.box rfl rfl rfl rfl (fun _ => ?_)) | refine Pw.list (Pw.alloc rfl rfl rfl rfl rfl (fun _ => ?_)))
  refine Pw.joinQ (σ := Option Addr × Nat) (fun _ => True) (fun q => ⟨[(1, .pointer (some ⟨g1, 0, none⟩)), (8, .pointer (some ⟨gE, 0, none⟩)), (83, .int .i64 1), (84, .int .i64 0)], [⟨gE, row (cE (sl [5] (A, c)) lg.gl vo.gv (.slice q.1 1 q.2) ge) 73⟩, acB lg 5 0], [lgF lg, voF vo]⟩) ?_ ?_
  · skip
    refine Pw.drawnG mixed rfl rfl ?_
    refine Pw.takeP 0 (nb 12 1) rfl rfl rfl rfl (by kernel_rfl) np sf ?_
    refine Pw.takeP 1 (nb 12 3) rfl rfl rfl rfl (by kernel_rfl) np sf ?_
    refine Pw.takeP 2 (nb 12 7) rfl rfl rfl rfl (by kernel_rfl) np sf ?_
    refine Pw.takeP 3 (nb 12 15) rfl rfl rfl rfl (by kernel_rfl) np sf ?_
    refine Pw.two 4 5 (nb 12 31) (nb 12 47) rfl rfl (by kernel_rfl) ?_ ?_
    · skip
      refine Pw.loadO (g := gE) (i := 13) (cs := cE (sl [5] (A, c)) lg.gl vo.gv (.slice none 0 0) ge) (t := 73) rfl rfl (.head _) rfl rfl rfl ?_
      refine Pw.held sf ?_
      refine Pw.one 5 (nb 12 63) rfl (by kernel_rfl) ?_
      refine Pw.call sNew_ct rfl rfl rfl (by kernel_rfl) rfl rfl (fun w h => trivial) ?_
      intro gs _
      refine Pw.held sf ?_
      refine Pw.takeBuild 6 (nb 12 127) rfl rfl rfl rfl rfl (by kernel_rfl) np sf ?_
      refine Pw.one 7 (nb 12 255) rfl (by kernel_rfl) ?_
      refine Pw.lit14 rfl rfl rfl rfl rfl rfl rfl rfl rfl (fun g2 => freeHead ?_)
      refine Pw.held sf ?_
      refine Pw.one 8 (nb 12 511) rfl (by kernel_rfl) ?_
      refine Pw.push (s := none) (m := 0) (cells := []) (news := [.int .i64 0, .int .u64 0, .slice none 0 0, .pointer (some ⟨gs, 0, none⟩)]) rfl rfl rfl rfl rfl rfl rfl ⟨rfl, rfl⟩ rfl (fun u hu => by
        simp only [List.mem_cons, List.not_mem_nil, or_false] at hu
        rcases hu with rfl | rfl | rfl | rfl <;> rfl) (fun w hs j u hu => by
        have h1 : w.heap[g2]? = some (row [.int .i64 0, .int .u64 0, .slice none 0 0, .pointer (some ⟨gs, 0, none⟩)] 77) := fact0 hs.all
        rw [add_none, cell_of_blk h1]
        simpa using hu) (by omega) (by simp only [maxLen]; omega) (by show 1 * 48 ≤ _; omega) rfl rfl (fun q hq => ?_)
      obtain _ | ⟨gq, cq, exq⟩ := q
      · have := hq.1; omega
      refine Pw.eqL (L' := [⟨gq, row (.int .i64 0 :: .int .u64 0 :: .slice none 0 0 :: .pointer (some ⟨gs, 0, none⟩) :: exq) 77⟩, ⟨gE, row (cE (sl [5] (A, c)) lg.gl vo.gv (.slice none 0 0) ge) 73⟩, acB lg 5 0]) rfl ?_
      refine freeHead ?_
      refine Pw.re (d := 94) (v' := .slice (some ⟨gq, 0, none⟩) 1 cq) rfl rfl ?_
      refine Pw.held sf ?_
      refine Pw.takeP 9 (nb 12 1023) rfl rfl rfl rfl (by kernel_rfl) np sf ?_
      refine Pw.takeP 10 (nb 12 2047) rfl rfl rfl rfl (by kernel_rfl) np sf ?_
      refine Pw.one 11 (nb 12 4095) rfl (by kernel_rfl) ?_
      refine Pw.storeO rfl rfl rfl rfl rfl (by show 13 < 30; omega) rfl .head rfl ?_
      refine Pw.held sf ?_
      refine Pw.done (by kernel_rfl) ?_
      exact Pw.then_ (Pw.arrive ((some ⟨gq, 0, none⟩, cq) : Option Addr × Nat) trivial ⟨rfl, rfl, rfl, rfl, trivial⟩ rfl (fun w h => allCons (hv w h : lgF lg w) (allCons (hv w h : voF vo w) allNil)))
    · skip
      refine Pw.call sNew_ct rfl rfl rfl (by kernel_rfl) rfl rfl (fun w h => trivial) ?_
      intro gs _
      refine Pw.held sf ?_
      refine Pw.takeBuild 6 (nb 12 111) rfl rfl rfl rfl rfl (by kernel_rfl) np sf ?_
      refine Pw.two 4 7 (nb 12 127) (nb 12 239) rfl rfl (by kernel_rfl) ?_ ?_
      · skip
        refine Pw.loadO (g := gE) (i := 13) (cs := cE (sl [5] (A, c)) lg.gl vo.gv (.slice none 0 0) ge) (t := 73) rfl rfl (.head _) rfl rfl rfl ?_
        refine Pw.held sf ?_
        refine Pw.one 7 (nb 12 255) rfl (by kernel_rfl) ?_
        refine Pw.lit14 rfl rfl rfl rfl rfl rfl rfl rfl rfl (fun g2 => freeHead ?_)
        refine Pw.held sf ?_
        refine Pw.one 8 (nb 12 511) rfl (by kernel_rfl) ?_
        refine Pw.push (s := none) (m := 0) (cells := []) (news := [.int .i64 0, .int .u64 0, .slice none 0 0, .pointer (some ⟨gs, 0, none⟩)]) rfl rfl rfl rfl rfl rfl rfl ⟨rfl, rfl⟩ rfl (fun u hu => by
          simp only [List.mem_cons, List.not_mem_nil, or_false] at hu
          rcases hu with rfl | rfl | rfl | rfl <;> rfl) (fun w hs j u hu => by
          have h1 : w.heap[g2]? = some (row [.int .i64 0, .int .u64 0, .slice none 0 0, .pointer (some ⟨gs, 0, none⟩)] 77) := fact0 hs.all
          rw [add_none, cell_of_blk h1]
          simpa using hu) (by omega) (by simp only [maxLen]; omega) (by show 1 * 48 ≤ _; omega) rfl rfl (fun q hq => ?_)
        obtain _ | ⟨gq, cq, exq⟩ := q
        · have := hq.1; omega
        refine Pw.eqL (L' := [⟨gq, row (.int .i64 0 :: .int .u64 0 :: .slice none 0 0 :: .pointer (some ⟨gs, 0, none⟩) :: exq) 77⟩, ⟨gE, row (cE (sl [5] (A, c)) lg.gl vo.gv (.slice none 0 0) ge) 73⟩, acB lg 5 0]) rfl ?_
        refine freeHead ?_
        refine Pw.re (d := 94) (v' := .slice (some ⟨gq, 0, none⟩) 1 cq) rfl rfl ?_
        refine Pw.held sf ?_
        refine Pw.takeP 9 (nb 12 1023) rfl rfl rfl rfl (by kernel_rfl) np sf ?_
        refine Pw.takeP 10 (nb 12 2047) rfl rfl rfl rfl (by kernel_rfl) np sf ?_
        refine Pw.one 11 (nb 12 4095) rfl (by kernel_rfl) ?_
        refine Pw.storeO rfl rfl rfl rfl rfl (by show 13 < 30; omega) rfl .head rfl ?_
        refine Pw.held sf ?_
        refine Pw.done (by kernel_rfl) ?_
        exact Pw.then_ (Pw.arrive ((some ⟨gq, 0, none⟩, cq) : Option Addr × Nat) trivial ⟨rfl, rfl, rfl, rfl, trivial⟩ rfl (fun w h => allCons (hv w h : lgF lg w) (allCons (hv w h : voF vo w) allNil)))
      · skip
        refine Pw.lit14 rfl rfl rfl rfl rfl rfl rfl rfl rfl (fun g2 => freeHead ?_)
        refine Pw.held sf ?_
        refine Pw.one 4 (nb 12 255) rfl (by kernel_rfl) ?_
        refine Pw.loadO (g := gE) (i := 13) (cs := cE (sl [5] (A, c)) lg.gl vo.gv (.slice none 0 0) ge) (t := 73) rfl rfl (.head _) rfl rfl rfl ?_
        refine Pw.held sf ?_
        refine Pw.one 8 (nb 12 511) rfl (by kernel_rfl) ?_
        refine Pw.push (s := none) (m := 0) (cells := []) (news := [.int .i64 0, .int .u64 0, .slice none 0 0, .pointer (some ⟨gs, 0, none⟩)]) rfl rfl rfl rfl rfl rfl rfl ⟨rfl, rfl⟩ rfl (fun u hu => by
          simp only [List.mem_cons, List.not_mem_nil, or_false] at hu
          rcases hu with rfl | rfl | rfl | rfl <;> rfl) (fun w hs j u hu => by
          have h1 : w.heap[g2]? = some (row [.int .i64 0, .int .u64 0, .slice none 0 0, .pointer (some ⟨gs, 0, none⟩)] 77) := fact0 hs.all
          rw [add_none, cell_of_blk h1]
          simpa using hu) (by omega) (by simp only [maxLen]; omega) (by show 1 * 48 ≤ _; omega) rfl rfl (fun q hq => ?_)
        obtain _ | ⟨gq, cq, exq⟩ := q
        · have := hq.1; omega
        refine Pw.eqL (L' := [⟨gq, row (.int .i64 0 :: .int .u64 0 :: .slice none 0 0 :: .pointer (some ⟨gs, 0, none⟩) :: exq) 77⟩, ⟨gE, row (cE (sl [5] (A, c)) lg.gl vo.gv (.slice none 0 0) ge) 73⟩, acB lg 5 0]) rfl ?_
        refine freeHead ?_
        refine Pw.re (d := 94) (v' := .slice (some ⟨gq, 0, none⟩) 1 cq) rfl rfl ?_
        refine Pw.held sf ?_
        refine Pw.takeP 9 (nb 12 1023) rfl rfl rfl rfl (by kernel_rfl) np sf ?_
        refine Pw.takeP 10 (nb 12 2047) rfl rfl rfl rfl (by kernel_rfl) np sf ?_
        refine Pw.one 11 (nb 12 4095) rfl (by kernel_rfl) ?_
        refine Pw.storeO rfl rfl rfl rfl rfl (by show 13 < 30; omega) rfl .head rfl ?_
        refine Pw.held sf ?_
        refine Pw.done (by kernel_rfl) ?_
        exact Pw.then_ (Pw.arrive ((some ⟨gq, 0, none⟩, cq) : Option Addr × Nat) trivial ⟨rfl, rfl, rfl, rfl, trivial⟩ rfl (fun w h => allCons (hv w h : lgF lg w) (allCons (hv w h : voF vo w) allNil)))
  rintro q _
  repeat (first | refine Pw.runs ?_ | refine Pw.list (Pw.box rfl rfl rfl rfl (fun _ => ?_)) | refine Pw.list (Pw.alloc rfl rfl rfl rfl rfl (fun _ => ?_)))
  refine Pw.re (d := 84) (v' := .int .i64 1) rfl (congrArg (Value.int .i64) (by unfold wrap64; omega)) ?_
  refine Pw.round ?_
  repeat (first | refine Pw.runs ?_ | refine Pw.list (Pw.box rfl rfl rfl rfl (fun _ => ?_)) | refine Pw.list (Pw.alloc rfl rfl rfl rfl rfl (fun _ => ?_)))
  refine freeHead ?_
  exact Pw.retB (x := (⟨lg, vo, gE, q, ge, sl [5] (A, c)⟩ : Eg)) (List.Sublist.refl _) (.tmp rfl (.tmp rfl .nil)) rfl trivial (fun w h => ⟨fact0 h, (hv w h : lgF lg w), (hv w h : voF vo w)⟩)
end Go.Proofs.Wk
/- A new engine bonds 3 of 5. -/
namespace Go.Proofs.Wk
open Go.RowKit
set_option maxRecDepth 100000
set_option maxHeartbeats 8000000
set_option linter.unusedVariables false
set_option linter.unusedSimpArgs false
section
variable {P : Program} {w0 : World} {M O : Nat → Prop} {n : Nat} {K : Slots} {L : List Blk} {G : List (World → Prop)} {N : Act → World → Prop} {Q : Exit → Act → World → Prop} {ops : Array Oper}
  {d : Nat} {ty : TypeId} {pos : String} {af : Array Edge} {gd : Option (Nat × Bool)}
theorem build3_run {t e : TypeId} {v u s : Value} {f : TypeInfo} {z : Value} (ht : P.underlying t = some (.slice e)) (hf : P.info? e = some f) (h1 : f.size = 1) (hz : f.zero = some z) (hzc : z.cells = #[z]) (hv : v.cells = #[v]) (hu : u.cells = #[u]) (hs : s.cells = #[s]) (w : World) :
    (Instr.buildSlice t 3 #[(0, v), (1, u), (2, s)]).run P w = .ok (.slice (some ⟨w.heap.size, 0, none⟩) 3 3) (w.alloc (row [v, u, s] e)) := by
  simp [Instr.buildSlice, underlying, ht, sizeOf, typeInfo, hf, h1, zeroValue, hz, hzc, Instr.fill, hv, hu, hs, newRow, show Array.range 3 = #[0, 1, 2] by decide]
theorem Pw.lit3 {t e : TypeId} {x y y2 : Operand} {v u s : Value} {f : TypeInfo} {z : Value} (hx : ev K x = some v) (hy : ev K y = some u) (hy2 : ev K y2 = some s) (ht : P.underlying t = some (.slice e)) (hf : P.info? e = some f) (h1 : f.size = 1) (hz : f.zero = some z) (hzc : z.cells = #[z]) (hv : v.cells = #[v]) (hu : u.cells = #[u]) (hs : s.cells = #[s]) (hw : wantB K ops gd = some true) (hn : Nat.blt d n = true)
    (h : ∀ g, Pw w0 M O n ((d, .slice (some ⟨g, 0, none⟩) 3 3) :: K) (⟨g, row [v, u, s] e⟩ :: L) G N) : Pw w0 M O n K L G (OpG P ops ⟨some d, .buildSlice t 3 #[(0, x), (1, y), (2, y2)], ty, pos, af, gd⟩ N Q) :=
  Pw.stepE hw rfl hn fun a w ha hss => ⟨_, _, _, _, by have := build3_run (P := P) ht hf h1 hz hzc hv hu hs w; simp [execOp, ha.eval hx, ha.eval hy, ha.eval hy2, this], hss.new _, h _⟩
end
attribute [local irreducible] Pw OpG
abbrev I0 (z : Option Addr × Nat) : World → Prop := Ints .i64 [0] z.1 z.2
abbrev lgH (a : Lg) : World → Prop := fun W => W.heap[a.gl]? = some (row [.slice (some ⟨a.ga, 0, none⟩) 1 a.ca, .int .u64 0, .int .u64 0, .int .u64 5] 116)
abbrev bxH (g2 : Nat) (a : Lg) : World → Prop := fun W => W.heap[g2]? = some (row [.pointer (some ⟨a.gl, 0, none⟩)] 66)
theorem clo0_ct (g2 : Nat) (a : Lg) : Ct Tryz.prog 92 #[.int .i64 0, .pointer (some ⟨g2, 0, none⟩)] (fun W => bxH g2 a W ∧ lgH a W) (fun _ : Unit => .bool false) Tt (fun _ _ => True) := by
  refine Ct.start Tryz.func92 rfl rfl (slots_of rfl slots2) (fun D w0 => Pw.facts (G' := [bxH g2 a, lgH a]) (fun w h => allCons (fact0 h).1 (allCons (fact0 h).2 allNil)) ?_)
  repeat (first | refine Pw.runs ?_ | refine Pw.list (Pw.box rfl rfl rfl rfl (fun _ => ?_)) | refine Pw.list (Pw.alloc rfl rfl rfl rfl rfl (fun _ => ?_)))
  exact Pw.ret_ (x := ()) (.tmp rfl .nil) rfl trivial (fun w h => by trivial)
theorem ixf0_ct (g2 : Nat) (a : Lg) (z : Option Addr × Nat) : Ct Tryz.prog 134 #[sl [0] z, .func (.func 92) #[] #[.pointer (some ⟨g2, 0, none⟩)]] (fun W => bxH g2 a W ∧ lgH a W ∧ I0 z W) (fun _ : Unit => .int .i64 (-1)) Tt (fun _ _ => True) := by
  obtain ⟨A, c⟩ := z
  refine Ct.start Tryz.func134 rfl rfl (slots_of rfl slots2) (fun D w0 => Pw.facts (G' := [bxH g2 a, lgH a, I0 (A, c)]) (fun w h => allCons (fact0 h).1 (allCons (fact0 h).2.1 (allCons (fact0 h).2.2 allNil))) ?_)
  refine Pw.use (p := A.isSome = true) (fun w h => (fact2 h : I0 (A, c) w).has (i := 0) (Int.le_refl 0) (by show (0 : Int) < 1; omega)) (fun hA => ?_)
  obtain ⟨ad, rfl⟩ := Option.isSome_iff_exists.1 hA
  repeat (first | refine Pw.runs ?_ | refine Pw.list (Pw.box rfl rfl rfl rfl (fun _ => ?_)) | refine Pw.list (Pw.alloc rfl rfl rfl rfl rfl (fun _ => ?_)))
  refine Pw.rounds 3 (Pw.round ?_)
  repeat (first | refine Pw.runs ?_ | refine Pw.list (Pw.box rfl rfl rfl rfl (fun _ => ?_)) | refine Pw.list (Pw.alloc rfl rfl rfl rfl rfl (fun _ => ?_)))
  refine Pw.list (Pw.indexS rfl rfl rfl rfl (Int.le_refl 0) (by show (0 : Int) < 1; omega) rfl rfl ?_)
  refine Pw.list (Pw.load1 rfl rfl (fun w hs => (fact2 hs.all : I0 (some ad, c) w).cell (i := 0) (Int.le_refl 0) (by show (0 : Int) < 1; omega)) rfl rfl ?_)
  refine Pw.re (d := 15) (v' := .int .i64 0) rfl rfl ?_
  refine Pw.list (Pw.call (clo0_ct g2 a) rfl rfl rfl (by kernel_rfl) rfl rfl (fun w h => ⟨fact0 h, fact1 h⟩) ?_)
  intro _ _
  repeat (first | refine Pw.runs ?_ | refine Pw.list (Pw.box rfl rfl rfl rfl (fun _ => ?_)) | refine Pw.list (Pw.alloc rfl rfl rfl rfl rfl (fun _ => ?_)))
  refine Pw.re (d := 8) (v' := .int .i64 1) rfl (congrArg (Value.int .i64) (by unfold wrap64; omega)) ?_
  refine Pw.round ?_
  repeat (first | refine Pw.runs ?_ | refine Pw.list (Pw.box rfl rfl rfl rfl (fun _ => ?_)) | refine Pw.list (Pw.alloc rfl rfl rfl rfl rfl (fun _ => ?_)))
  exact Pw.ret_ (x := ()) (.tmp rfl .nil) rfl trivial (fun w h => by trivial)
theorem con0_ct (g2 : Nat) (a : Lg) (z : Option Addr × Nat) : Ct Tryz.prog 91 #[sl [0] z, .func (.func 92) #[] #[.pointer (some ⟨g2, 0, none⟩)]] (fun W => bxH g2 a W ∧ lgH a W ∧ I0 z W) (fun _ : Unit => .bool false) Tt (fun _ _ => True) := by
  refine Ct.start Tryz.func91 rfl rfl (slots_of rfl slots2) (fun D w0 => ?_)
  repeat (first | refine Pw.runs ?_ | refine Pw.list (Pw.box rfl rfl rfl rfl (fun _ => ?_)) | refine Pw.list (Pw.alloc rfl rfl rfl rfl rfl (fun _ => ?_)))
  refine Pw.list (Pw.call (ixf0_ct g2 a z) rfl rfl rfl (by kernel_rfl) rfl rfl (fun w h => fact0 h) ?_)
  intro _ _
  repeat (first | refine Pw.runs ?_ | refine Pw.list (Pw.box rfl rfl rfl rfl (fun _ => ?_)) | refine Pw.list (Pw.alloc rfl rfl rfl rfl rfl (fun _ => ?_)))
  exact Pw.ret_ (x := ()) (.tmp rfl .nil) rfl trivial (fun w h => by trivial)
theorem lFind0_ct (a : Lg) (z : Option Addr × Nat) : Ct Tryz.prog 54 #[.pointer (some ⟨a.gl, 0, none⟩), sl [0] z] (fun W => lgH a W ∧ I0 z W) (fun _ : Unit => .int .i64 0) Tt (fun _ _ => True) := by
  refine Ct.start Tryz.func54 rfl rfl (slots_of rfl slots2) (fun D w0 => Pw.facts (G' := [lgH a, I0 z]) (fun w h => allCons (fact0 h).1 (allCons (fact0 h).2 allNil)) ?_)
  try refine Pw.run ?_
  refine Pw.list (Pw.box rfl rfl rfl rfl (fun g2 => freeHead ?_))
  repeat (first | refine Pw.runs ?_ | refine Pw.list (Pw.box rfl rfl rfl rfl (fun _ => ?_)) | refine Pw.list (Pw.alloc rfl rfl rfl rfl rfl (fun _ => ?_)))
  refine Pw.list (Pw.call (con0_ct g2 a z) rfl rfl rfl (by kernel_rfl) rfl rfl (fun w h => ⟨fact0 h, fact1 h, fact2 h⟩) ?_)
  intro _ _
  repeat (first | refine Pw.runs ?_ | refine Pw.list (Pw.box rfl rfl rfl rfl (fun _ => ?_)) | refine Pw.list (Pw.alloc rfl rfl rfl rfl rfl (fun _ => ?_)))
  exact Pw.ret_ (x := ()) (.tmp rfl .nil) rfl trivial (fun w h => by trivial)
abbrev acH (a : Lg) (f b : Int) : World → Prop := fun W => W.heap[a.ga]? = some (acB a f b).o
theorem lAcc_ct (a : Lg) (f b : Int) : Ct Tryz.prog 23 #[.pointer (some ⟨a.gl, 0, none⟩), .int .i64 0] (fun W => lgH a W ∧ acH a f b W) (fun _ : Unit => .tuple #[.agg #[.int .u64 f, .int .u64 b, .int .u64 0, .slice none 0 0], .bool true]) Tt (fun _ _ => True) := by
  refine Ct.start Tryz.func23 rfl rfl (slots_of rfl slots2) (fun D w0 => Pw.facts (G' := [lgH a, acH a f b]) (fun w h => allCons (fact0 h).1 (allCons (fact0 h).2 allNil)) ?_)
  repeat (first | refine Pw.runs ?_ | refine Pw.list (Pw.box rfl rfl rfl rfl (fun _ => ?_)) | refine Pw.list (Pw.alloc rfl rfl rfl rfl rfl (fun _ => ?_)))
  refine Pw.list (Pw.lit1 rfl rfl rfl rfl rfl rfl rfl rfl rfl (fun g2 => freeHead ?_))
  refine Pw.list (Pw.call (lFind0_ct a (some ⟨g2, 0, none⟩, 1)) rfl rfl rfl (by kernel_rfl) rfl rfl (fun w h => ⟨fact1 h, ints_of_row' (l := [0]) (fact0 h) (Nat.le_refl _) (by simp [maxLen])⟩) ?_)
  intro _ _
  repeat (first | refine Pw.runs ?_ | refine Pw.list (Pw.box rfl rfl rfl rfl (fun _ => ?_)) | refine Pw.list (Pw.alloc rfl rfl rfl rfl rfl (fun _ => ?_)))
  refine Pw.list (Pw.indexS rfl rfl rfl rfl (Int.le_refl 0) (by show (0 : Int) < 1; omega) rfl rfl ?_)
  refine Pw.re (d := 18) (v' := .pointer (some ⟨a.ga, 0, none⟩)) rfl rfl ?_
  repeat (first | refine Pw.runs ?_ | refine Pw.list (Pw.box rfl rfl rfl rfl (fun _ => ?_)) | refine Pw.list (Pw.alloc rfl rfl rfl rfl rfl (fun _ => ?_)))
  refine Pw.list (Pw.call clCh_ct rfl rfl rfl (by kernel_rfl) rfl rfl (fun w h => trivial) ?_)
  intro _ _
  repeat (first | refine Pw.runs ?_ | refine Pw.list (Pw.box rfl rfl rfl rfl (fun _ => ?_)) | refine Pw.list (Pw.alloc rfl rfl rfl rfl rfl (fun _ => ?_)))
  exact Pw.ret_ (x := ()) (.cell rfl (fun w hs => hs.own _ (.tail _ (.head _))) rfl (.tmp rfl .nil)) rfl trivial (fun w h => by trivial)
abbrev egH (a : Eg) : World → Prop := fun W => W.heap[a.gE]? = some (row (cE a.zb a.lg.gl a.vo.gv (.slice a.ac.1 1 a.ac.2) a.ge) 73)
theorem eBonded_ct (a : Eg) (f b : Int) : Ct Tryz.prog 95 #[.pointer (some ⟨a.gE, 0, none⟩), .int .i64 0] (fun W => egH a W ∧ lgH a.lg W ∧ acH a.lg f b W) (fun _ : Unit => .int .u64 b) Tt (fun _ _ => True) := by
  refine Ct.start Tryz.func95 rfl rfl (slots_of rfl slots2) (fun D w0 => Pw.facts (G' := [egH a, lgH a.lg, acH a.lg f b]) (fun w h => allCons (fact0 h).1 (allCons (fact0 h).2.1 (allCons (fact0 h).2.2 allNil))) ?_)
  repeat (first | refine Pw.runs ?_ | refine Pw.list (Pw.box rfl rfl rfl rfl (fun _ => ?_)) | refine Pw.list (Pw.alloc rfl rfl rfl rfl rfl (fun _ => ?_)))
  refine Pw.list (Pw.call (lAcc_ct a.lg f b) rfl rfl rfl (by kernel_rfl) rfl rfl (fun w h => ⟨fact1 h, fact2 h⟩) ?_)
  intro _ _
  repeat (first | refine Pw.runs ?_ | refine Pw.list (Pw.box rfl rfl rfl rfl (fun _ => ?_)) | refine Pw.list (Pw.alloc rfl rfl rfl rfl rfl (fun _ => ?_)))
  exact Pw.ret_ (x := ()) (.tmp rfl .nil) rfl trivial (fun w h => by trivial)
abbrev voH (a : Vo) : World → Prop := fun W => W.heap[a.gv]? = some (row [.slice none 0 0, a.rw_, .map (some a.gm)] 153)
abbrev vmH (a : Vo) : World → Prop := fun W => W.heap[a.gm]? = some (mapO [])
theorem vFind_ct (a : Vo) (id : Int) : Ct Tryz.prog 105 #[.pointer (some ⟨a.gv, 0, none⟩), .int .i64 id] (fun W => voH a W ∧ vmH a W) (fun _ : Unit => .tuple #[.pointer none, .int .i64 5]) Tt (fun _ _ => True) := by
  refine Ct.start Tryz.func105 rfl rfl (slots_of rfl slots2) (fun D w0 => Pw.facts (G' := [voH a, vmH a]) (fun w h => allCons (fact0 h).1 (allCons (fact0 h).2 allNil)) ?_)
  repeat (first | refine Pw.runs ?_ | refine Pw.list (Pw.box rfl rfl rfl rfl (fun _ => ?_)) | refine Pw.list (Pw.alloc rfl rfl rfl rfl rfl (fun _ => ?_)))
  refine Pw.list (Pw.lookupF (m := []) rfl rfl rfl rfl rfl rfl (fun w hs => fact1 hs.all) rfl rfl ?_)
  refine Pw.re (d := 22) (v' := .pointer none) rfl rfl ?_
  repeat (first | refine Pw.runs ?_ | refine Pw.list (Pw.box rfl rfl rfl rfl (fun _ => ?_)) | refine Pw.list (Pw.alloc rfl rfl rfl rfl rfl (fun _ => ?_)))
  exact Pw.ret_ (x := ()) (.tmp rfl (.tmp rfl .nil)) rfl trivial (fun w h => by trivial)
theorem vUpdate_ct (a : Vo) (id s : Int) : Ct Tryz.prog 94 #[.pointer (some ⟨a.gv, 0, none⟩), .int .i64 id, .int .u64 s] (fun W => voH a W ∧ vmH a W) (fun _ : Unit => .int .i64 5) Tt (fun _ _ => True) := by
  refine Ct.start Tryz.func94 rfl rfl (slots_of rfl slots3) (fun D w0 => ?_)
  repeat (first | refine Pw.runs ?_ | refine Pw.list (Pw.box rfl rfl rfl rfl (fun _ => ?_)) | refine Pw.list (Pw.alloc rfl rfl rfl rfl rfl (fun _ => ?_)))
  refine Pw.list (Pw.call (vFind_ct a id) rfl rfl rfl (by kernel_rfl) rfl rfl (fun w h => fact0 h) ?_)
  intro _ _
  repeat (first | refine Pw.runs ?_ | refine Pw.list (Pw.box rfl rfl rfl rfl (fun _ => ?_)) | refine Pw.list (Pw.alloc rfl rfl rfl rfl rfl (fun _ => ?_)))
  exact Pw.ret_ (x := ()) (.tmp rfl .nil) rfl trivial (fun w h => by trivial)
theorem eFollow_ct (a : Eg) (f b : Int) : Ct Tryz.prog 58 #[.pointer (some ⟨a.gE, 0, none⟩), .int .i64 0, .int .i64 0] (fun W => egH a W ∧ lgH a.lg W ∧ acH a.lg f b W ∧ voH a.vo W ∧ vmH a.vo W) (fun _ : Unit => .int .i64 0) Tt (fun _ _ => True) := by
  refine Ct.start Tryz.func58 rfl rfl (slots_of rfl slots3) (fun D w0 => Pw.facts (G' := [egH a, lgH a.lg, acH a.lg f b, voH a.vo, vmH a.vo]) (fun w h => allCons (fact0 h).1 (allCons (fact0 h).2.1 (allCons (fact0 h).2.2.1 (allCons (fact0 h).2.2.2.1 (allCons (fact0 h).2.2.2.2 allNil))))) ?_)
  repeat (first | refine Pw.runs ?_ | refine Pw.list (Pw.box rfl rfl rfl rfl (fun _ => ?_)) | refine Pw.list (Pw.alloc rfl rfl rfl rfl rfl (fun _ => ?_)))
  refine Pw.drawnG mixed rfl rfl ?_
  refine Pw.takeP 0 (nb 9 1) rfl rfl rfl rfl (by kernel_rfl) np sf ?_
  refine Pw.takeP 1 (nb 9 3) rfl rfl rfl rfl (by kernel_rfl) np sf ?_
  refine Pw.takeP 2 (nb 9 7) rfl rfl rfl rfl (by kernel_rfl) np sf ?_
  refine Pw.takeF 3 (nb 9 15) rfl rfl inferInstance rfl rfl rfl (by kernel_rfl) np sf ?_
  refine Pw.takeP 4 (nb 9 31) rfl rfl rfl rfl (by kernel_rfl) np sf ?_
  refine Pw.takeP 5 (nb 9 63) rfl rfl rfl rfl (by kernel_rfl) np sf ?_
  refine Pw.takeP 6 (nb 9 127) rfl rfl rfl rfl (by kernel_rfl) np sf ?_
  refine Pw.one 7 (nb 9 255) rfl (by kernel_rfl) ?_
  refine Pw.call (eBonded_ct a f b) rfl rfl rfl (by kernel_rfl) rfl rfl (fun w h => ⟨fact0 h, fact1 h, fact2 h⟩) ?_
  intro _ _
  refine Pw.held sf ?_
  refine Pw.one 8 (nb 9 511) rfl (by kernel_rfl) ?_
  refine Pw.call (vUpdate_ct a.vo 0 b) rfl rfl rfl (by kernel_rfl) rfl rfl (fun w h => ⟨(fx h), (fx h)⟩) ?_
  intro _ _
  refine Pw.held sf ?_
  refine Pw.done (by kernel_rfl) ?_
  skip
  repeat (first | refine Pw.runs ?_ | refine Pw.list (Pw.box rfl rfl rfl rfl (fun _ => ?_)) | refine Pw.list (Pw.alloc rfl rfl rfl rfl rfl (fun _ => ?_)))
  exact Pw.ret_ (x := ()) (.tmp rfl .nil) rfl trivial (fun w h => by trivial)
end Go.Proofs.Wk
/- A new engine bonds 3 of 5: the call; psephoslaw23.awake. -/
namespace Go.Proofs.Wk
open Go.RowKit
set_option maxRecDepth 100000
set_option maxHeartbeats 8000000
set_option linter.unusedVariables false
set_option linter.unusedSimpArgs false
attribute [local irreducible] Pw OpG
theorem sub53_ct : Ct Tryz.prog 135 #[.int .u64 5, .int .u64 3] (fun _ => True) (fun _ : Unit => .tuple #[.int .u64 2, .int .i64 0]) Tt (fun _ _ => True) := by
  refine Ct.start Tryz.func135 rfl rfl (slots_of rfl slots2) (fun D w0 => ?_)
  repeat (first | refine Pw.runs ?_ | refine Pw.list (Pw.box rfl rfl rfl rfl (fun _ => ?_)) | refine Pw.list (Pw.alloc rfl rfl rfl rfl rfl (fun _ => ?_)))
  refine Pw.re (d := 4) (v' := .int .u64 2) rfl (congrArg (Value.int .u64) (wu (by omega) (by omega))) ?_
  exact Pw.ret_ (x := ()) (.tmp rfl (.tmp rfl .nil)) rfl trivial (fun w h => by trivial)
theorem lMove_ct (a : Lg) : CtB Tryz.prog 93 #[.pointer (some ⟨a.ga, 0, none⟩), .pointer (some ⟨a.ga, 1, none⟩), .int .u64 3] [acB a 5 0] (fun _ => True) (fun _ : Unit => .int .i64 0) Tt (fun _ => [acB a 2 3]) (fun _ _ => True) := by
  refine CtB.start Tryz.func93 rfl rfl (slots_of rfl slots3) (fun D w0 => ?_)
  repeat (first | refine Pw.runs ?_ | refine Pw.list (Pw.box rfl rfl rfl rfl (fun _ => ?_)) | refine Pw.list (Pw.alloc rfl rfl rfl rfl rfl (fun _ => ?_)))
  refine Pw.list (Pw.call sub53_ct rfl rfl rfl (by kernel_rfl) rfl rfl (fun w h => trivial) ?_)
  intro _ _
  repeat (first | refine Pw.runs ?_ | refine Pw.list (Pw.box rfl rfl rfl rfl (fun _ => ?_)) | refine Pw.list (Pw.alloc rfl rfl rfl rfl rfl (fun _ => ?_)))
  refine Pw.eqL (L' := [acB a 2 3]) (by
    have e : IntKind.u64.wrap (0 + 3) = 3 := wu (by omega) (by omega)
    rw [e]; try rfl) ?_
  exact Pw.retB (x := ()) (List.Sublist.refl _) (.tmp rfl .nil) rfl trivial (fun w h => by trivial)
theorem lBond_ct (a : Lg) : CtB Tryz.prog 59 #[.pointer (some ⟨a.gl, 0, none⟩), .int .i64 0, .int .u64 3] [acB a 5 0] (lgH a) (fun _ : Unit => .int .i64 0) Tt (fun _ => [acB a 2 3]) (fun _ _ => True) := by
  refine CtB.start Tryz.func59 rfl rfl (slots_of rfl slots3) (fun D w0 => ?_)
  repeat (first | refine Pw.runs ?_ | refine Pw.list (Pw.box rfl rfl rfl rfl (fun _ => ?_)) | refine Pw.list (Pw.alloc rfl rfl rfl rfl rfl (fun _ => ?_)))
  refine Pw.list (Pw.lit1 rfl rfl rfl rfl rfl rfl rfl rfl rfl (fun g2 => freeHead ?_))
  refine Pw.list (Pw.call (lFind0_ct a (some ⟨g2, 0, none⟩, 1)) rfl rfl rfl (by kernel_rfl) rfl rfl (fun w h => ⟨fact1 h, ints_of_row' (l := [0]) (fact0 h) (Nat.le_refl _) (by simp [maxLen])⟩) ?_)
  intro _ _
  repeat (first | refine Pw.runs ?_ | refine Pw.list (Pw.box rfl rfl rfl rfl (fun _ => ?_)) | refine Pw.list (Pw.alloc rfl rfl rfl rfl rfl (fun _ => ?_)))
  refine Pw.drawnG mixed rfl rfl ?_
  refine Pw.takeP 0 (nb 17 1) rfl rfl rfl rfl (by kernel_rfl) np sf ?_
  refine Pw.takeP 1 (nb 17 3) rfl rfl rfl rfl (by kernel_rfl) np sf ?_
  refine Pw.takeP 2 (nb 17 7) rfl rfl rfl rfl (by kernel_rfl) np sf ?_
  refine Pw.takeF 3 (nb 17 15) rfl rfl inferInstance rfl rfl rfl (by kernel_rfl) np sf ?_
  refine Pw.takeP 4 (nb 17 31) rfl rfl rfl rfl (by kernel_rfl) np sf ?_
  refine Pw.takeIx 5 (nb 17 63) rfl rfl rfl rfl rfl (Int.le_refl 0) (by show (0 : Int) < 1; omega) rfl rfl (by kernel_rfl) np sf ?_
  refine Pw.re (d := 20) (v' := .pointer (some ⟨a.ga, 0, none⟩)) rfl rfl ?_
  refine Pw.takeP 6 (nb 17 127) rfl rfl rfl rfl (by kernel_rfl) np sf ?_
  refine Pw.takeP 7 (nb 17 255) rfl rfl rfl rfl (by kernel_rfl) np sf ?_
  refine Pw.takeP 8 (nb 17 511) rfl rfl rfl rfl (by kernel_rfl) np sf ?_
  refine Pw.takeP 9 (nb 17 1023) rfl rfl rfl rfl (by kernel_rfl) np sf ?_
  refine Pw.takeF 10 (nb 17 2047) rfl rfl inferInstance rfl rfl rfl (by kernel_rfl) np sf ?_
  refine Pw.takeP 11 (nb 17 4095) rfl rfl rfl rfl (by kernel_rfl) np sf ?_
  refine Pw.takeIx 12 (nb 17 8191) rfl rfl rfl rfl rfl (Int.le_refl 0) (by show (0 : Int) < 1; omega) rfl rfl (by kernel_rfl) np sf ?_
  refine Pw.re (d := 27) (v' := .pointer (some ⟨a.ga, 0, none⟩)) rfl rfl ?_
  refine Pw.takeP 13 (nb 17 16383) rfl rfl rfl rfl (by kernel_rfl) np sf ?_
  refine Pw.takeP 14 (nb 17 32767) rfl rfl rfl rfl (by kernel_rfl) np sf ?_
  refine Pw.one 15 (nb 17 65535) rfl (by kernel_rfl) ?_
  refine Pw.callB (L0 := []) (lMove_ct a) rfl rfl rfl rfl (by kernel_rfl) rfl rfl (fun w h => trivial) ?_
  intro _ _
  refine Pw.eqL (L' := [acB a 2 3]) rfl ?_
  refine Pw.held sf ?_
  refine Pw.takeP 16 (nb 17 131071) rfl rfl rfl rfl (by kernel_rfl) np sf ?_
  refine Pw.done (by kernel_rfl) ?_
  skip
  repeat (first | refine Pw.runs ?_ | refine Pw.list (Pw.box rfl rfl rfl rfl (fun _ => ?_)) | refine Pw.list (Pw.alloc rfl rfl rfl rfl rfl (fun _ => ?_)))
  exact Pw.retB (x := ()) (List.Sublist.refl _) (.tmp rfl .nil) rfl trivial (fun w h => by trivial)
theorem eId_ct (a : Eg) : Ct Tryz.prog 29 #[.pointer (some ⟨a.gE, 0, none⟩), .int .u64 0] (egH a) (fun _ : Unit => .int .i64 0) Tt (fun _ _ => True) := by
  refine Ct.start Tryz.func29 rfl rfl (slots_of rfl slots2) (fun D w0 => ?_)
  repeat (first | refine Pw.runs ?_ | refine Pw.list (Pw.box rfl rfl rfl rfl (fun _ => ?_)) | refine Pw.list (Pw.alloc rfl rfl rfl rfl rfl (fun _ => ?_)))
  exact Pw.ret_ (x := ()) (.tmp rfl .nil) (congrArg (Value.int .i64) (by unfold wrap64; omega)) trivial (fun w h => by trivial)
abbrev cB : Value := .agg #[.int .i64 2, .int .i64 0, .int .u64 3, .int .u64 0, .int .u64 0, .slice none 0 0, .slice none 0 0]
theorem num2_ct : Ct Tryz.prog 56 #[.int .i64 2] (fun _ => True) (fun _ : Unit => .int .i64 1) Tt (fun _ _ => True) := by
  refine Ct.start Tryz.func56 rfl rfl (slots_of rfl slots1) (fun D w0 => ?_)
  repeat (first | refine Pw.runs ?_ | refine Pw.list (Pw.box rfl rfl rfl rfl (fun _ => ?_)) | refine Pw.list (Pw.alloc rfl rfl rfl rfl rfl (fun _ => ?_)))
  exact Pw.ret_ (x := ()) (.tmp rfl .nil) rfl trivial (fun w h => by trivial)
theorem cFormed_ct : Ct Tryz.prog 28 #[cB] (fun _ => True) (fun _ : Unit => .bool true) Tt (fun _ _ => True) := by
  refine Ct.start Tryz.func28 rfl rfl (slots_of rfl slots1) (fun D w0 => ?_)
  try refine Pw.run ?_
  refine Pw.list (Pw.box rfl rfl rfl rfl (fun g1 => freeHead ?_))
  repeat (first | refine Pw.runs ?_ | refine Pw.list (Pw.box rfl rfl rfl rfl (fun _ => ?_)) | refine Pw.list (Pw.alloc rfl rfl rfl rfl rfl (fun _ => ?_)))
  refine Pw.joinQ (σ := Nat) (fun _ => True) (fun g => ⟨[(1, .pointer (some ⟨g1, 0, none⟩)), (35, .slice (some ⟨g, 1, none⟩) 2 2), (36, .int .i64 2), (37, .int .i64 0)], [], [fun W => W.heap[g]? = some (row [.int .u64 3, .int .u64 0, .int .u64 0] 22), fun W => W.heap[g1]? = some (row [.int .i64 2, .int .i64 0, .int .u64 3, .int .u64 0, .int .u64 0, .slice none 0 0, .slice none 0 0] 46)]⟩) ?_ ?_
  · skip
    refine Pw.drawnG mixed rfl rfl ?_
    refine Pw.takeP 0 (nb 13 1) rfl rfl rfl rfl (by kernel_rfl) np sf ?_
    refine Pw.takeF 1 (nb 13 3) rfl rfl inferInstance rfl rfl rfl (by kernel_rfl) np sf ?_
    refine Pw.takeP 2 (nb 13 7) rfl rfl rfl rfl (by kernel_rfl) np sf ?_
    refine Pw.takeF 3 (nb 13 15) rfl rfl inferInstance rfl rfl rfl (by kernel_rfl) np sf ?_
    refine Pw.takeP 4 (nb 13 31) rfl rfl rfl rfl (by kernel_rfl) np sf ?_
    refine Pw.takeF 5 (nb 13 63) rfl rfl inferInstance rfl rfl rfl (by kernel_rfl) np sf ?_
    refine Pw.takeP 7 (nb 13 191) rfl rfl rfl rfl (by kernel_rfl) np sf ?_
    refine Pw.takeF 8 (nb 13 447) rfl rfl inferInstance rfl rfl rfl (by kernel_rfl) np sf ?_
    refine Pw.takeP 12 (nb 13 4543) rfl rfl rfl rfl (by kernel_rfl) np sf ?_
    refine Pw.two 6 9 (nb 13 4607) (nb 13 5055) rfl rfl (by kernel_rfl) ?_ ?_
    · skip
      refine Pw.lit3 rfl rfl rfl rfl rfl rfl rfl rfl rfl rfl rfl rfl rfl (fun g => freeHead ?_)
      refine Pw.held sf ?_
      refine Pw.one 9 (nb 13 5119) rfl (by kernel_rfl) ?_
      refine Pw.call num2_ct rfl rfl rfl (by kernel_rfl) rfl rfl (fun w h => trivial) ?_
      intro _ _
      refine Pw.held sf ?_
      refine Pw.takeCutA 10 (nb 13 6143) rfl rfl rfl rfl rfl (by decide) (by decide) (by decide) rfl rfl (by kernel_rfl) np sf ?_
      refine Pw.re (d := 35) (v' := .slice (some ⟨g, 1, none⟩) 2 2) rfl rfl ?_
      refine Pw.takeP 11 (nb 13 8191) rfl rfl rfl rfl (by kernel_rfl) np sf ?_
      refine Pw.done (by kernel_rfl) ?_
      exact Pw.then_ (Pw.arrive g trivial ⟨rfl, rfl, rfl, rfl, trivial⟩ rfl (fun w h => allCons (fx h) (allCons (fx h) allNil)))
    · skip
      refine Pw.call num2_ct rfl rfl rfl (by kernel_rfl) rfl rfl (fun w h => trivial) ?_
      intro _ _
      refine Pw.held sf ?_
      refine Pw.one 6 (nb 13 5119) rfl (by kernel_rfl) ?_
      refine Pw.lit3 rfl rfl rfl rfl rfl rfl rfl rfl rfl rfl rfl rfl rfl (fun g => freeHead ?_)
      refine Pw.held sf ?_
      refine Pw.takeCutA 10 (nb 13 6143) rfl rfl rfl rfl rfl (by decide) (by decide) (by decide) rfl rfl (by kernel_rfl) np sf ?_
      refine Pw.re (d := 35) (v' := .slice (some ⟨g, 1, none⟩) 2 2) rfl rfl ?_
      refine Pw.takeP 11 (nb 13 8191) rfl rfl rfl rfl (by kernel_rfl) np sf ?_
      refine Pw.done (by kernel_rfl) ?_
      exact Pw.then_ (Pw.arrive g trivial ⟨rfl, rfl, rfl, rfl, trivial⟩ rfl (fun w h => allCons (fx h) (allCons (fx h) allNil)))
  rintro g _
  dsimp only
  repeat (first | refine Pw.runs ?_ | refine Pw.list (Pw.box rfl rfl rfl rfl (fun _ => ?_)) | refine Pw.list (Pw.alloc rfl rfl rfl rfl rfl (fun _ => ?_)))
  refine Pw.rounds 4 (Pw.round ?_)
  repeat (first | refine Pw.runs ?_ | refine Pw.list (Pw.box rfl rfl rfl rfl (fun _ => ?_)) | refine Pw.list (Pw.alloc rfl rfl rfl rfl rfl (fun _ => ?_)))
  refine Pw.list (Pw.indexS rfl rfl rfl rfl (Int.le_refl 0) (by show (0 : Int) < 2; omega) rfl rfl ?_)
  refine Pw.re (d := 39) (v' := .pointer (some ⟨g, 1, none⟩)) rfl rfl ?_
  repeat (first | refine Pw.runs ?_ | refine Pw.list (Pw.box rfl rfl rfl rfl (fun _ => ?_)) | refine Pw.list (Pw.alloc rfl rfl rfl rfl rfl (fun _ => ?_)))
  refine Pw.re (d := 37) (v' := .int .i64 1) rfl (congrArg (Value.int .i64) (by unfold wrap64; omega)) ?_
  refine Pw.round ?_
  repeat (first | refine Pw.runs ?_ | refine Pw.list (Pw.box rfl rfl rfl rfl (fun _ => ?_)) | refine Pw.list (Pw.alloc rfl rfl rfl rfl rfl (fun _ => ?_)))
  refine Pw.list (Pw.indexS rfl rfl rfl rfl (by decide) (by show (1 : Int) < 2; omega) rfl rfl ?_)
  refine Pw.re (d := 39) (v' := .pointer (some ⟨g, 2, none⟩)) rfl rfl ?_
  repeat (first | refine Pw.runs ?_ | refine Pw.list (Pw.box rfl rfl rfl rfl (fun _ => ?_)) | refine Pw.list (Pw.alloc rfl rfl rfl rfl rfl (fun _ => ?_)))
  refine Pw.re (d := 37) (v' := .int .i64 2) rfl (congrArg (Value.int .i64) (by unfold wrap64; omega)) ?_
  refine Pw.round ?_
  repeat (first | refine Pw.runs ?_ | refine Pw.list (Pw.box rfl rfl rfl rfl (fun _ => ?_)) | refine Pw.list (Pw.alloc rfl rfl rfl rfl rfl (fun _ => ?_)))
  exact Pw.ret_ (x := ()) (.tmp rfl .nil) rfl trivial (fun w h => by trivial)
theorem eOwn_ct (a : Eg) : CtB Tryz.prog 30 #[.pointer (some ⟨a.gE, 0, none⟩), cB] [acB a.lg 5 0] (fun W => egH a W ∧ lgH a.lg W ∧ voH a.vo W ∧ vmH a.vo W) (fun _ : Unit => .int .i64 0) Tt (fun _ => [acB a.lg 2 3]) (fun _ _ => True) := by
  refine CtB.start Tryz.func30 rfl rfl (slots_of rfl slots2) (fun D w0 => Pw.facts (G' := [egH a, lgH a.lg, voH a.vo, vmH a.vo]) (fun w h => allCons (fact0 h).1 (allCons (fact0 h).2.1 (allCons (fact0 h).2.2.1 (allCons (fact0 h).2.2.2 allNil)))) ?_)
  try refine Pw.run ?_
  refine Pw.list (Pw.box rfl rfl rfl rfl (fun g1 => freeHead ?_))
  repeat (first | refine Pw.runs ?_ | refine Pw.list (Pw.box rfl rfl rfl rfl (fun _ => ?_)) | refine Pw.list (Pw.alloc rfl rfl rfl rfl rfl (fun _ => ?_)))
  refine Pw.drawnG mixed rfl rfl ?_
  refine Pw.takeP 0 (nb 12 1) rfl rfl rfl rfl (by kernel_rfl) np sf ?_
  refine Pw.takeP 1 (nb 12 3) rfl rfl rfl rfl (by kernel_rfl) np sf ?_
  refine Pw.takeP 2 (nb 12 7) rfl rfl rfl rfl (by kernel_rfl) np sf ?_
  refine Pw.takeP 3 (nb 12 15) rfl rfl rfl rfl (by kernel_rfl) np sf ?_
  refine Pw.takeP 4 (nb 12 31) rfl rfl rfl rfl (by kernel_rfl) np sf ?_
  refine Pw.takeF 5 (nb 12 63) rfl rfl inferInstance rfl rfl rfl (by kernel_rfl) np sf ?_
  refine Pw.takeP 6 (nb 12 127) rfl rfl rfl rfl (by kernel_rfl) np sf ?_
  refine Pw.takeP 7 (nb 12 255) rfl rfl rfl rfl (by kernel_rfl) np sf ?_
  refine Pw.takeF 8 (nb 12 511) rfl rfl inferInstance rfl rfl rfl (by kernel_rfl) np sf ?_
  refine Pw.one 9 (nb 12 1023) rfl (by kernel_rfl) ?_
  refine Pw.callB (L0 := []) (lBond_ct a.lg) rfl rfl rfl rfl (by kernel_rfl) rfl rfl (fun w h => (fx h)) ?_
  intro _ _
  refine Pw.eqL (L' := [acB a.lg 2 3]) rfl ?_
  refine Pw.held sf ?_
  refine Pw.one 10 (nb 12 2047) rfl (by kernel_rfl) ?_
  refine Pw.callR (eFollow_ct a 2 3) rfl rfl rfl (by kernel_rfl) rfl rfl (fun w hs => by
    have h := hs.all
    exact ⟨(fx h), (fx h), hs.own (acB a.lg 2 3) (.head _), (fx h), (fx h)⟩) ?_
  intro _ _
  refine Pw.held sf ?_
  refine Pw.takeP 11 (nb 12 4095) rfl rfl rfl rfl (by kernel_rfl) np sf ?_
  refine Pw.done (by kernel_rfl) ?_
  skip
  repeat (first | refine Pw.runs ?_ | refine Pw.list (Pw.box rfl rfl rfl rfl (fun _ => ?_)) | refine Pw.list (Pw.alloc rfl rfl rfl rfl rfl (fun _ => ?_)))
  exact Pw.retB (x := ()) (List.Sublist.refl _) (.tmp rfl .nil) rfl trivial (fun w h => by trivial)
theorem eDo_ct (a : Eg) : CtB Tryz.prog 8 #[.pointer (some ⟨a.gE, 0, none⟩), cB] [acB a.lg 5 0] (fun W => egH a W ∧ lgH a.lg W ∧ voH a.vo W ∧ vmH a.vo W) (fun _ : Unit => .int .i64 0) Tt (fun _ => [acB a.lg 2 3]) (fun _ _ => True) := by
  refine CtB.start Tryz.func8 rfl rfl (slots_of rfl slots2) (fun D w0 => Pw.facts (G' := [egH a, lgH a.lg, voH a.vo, vmH a.vo]) (fun w h => allCons (fact0 h).1 (allCons (fact0 h).2.1 (allCons (fact0 h).2.2.1 (allCons (fact0 h).2.2.2 allNil)))) ?_)
  try refine Pw.run ?_
  refine Pw.list (Pw.box rfl rfl rfl rfl (fun g1 => freeHead ?_))
  repeat (first | refine Pw.runs ?_ | refine Pw.list (Pw.box rfl rfl rfl rfl (fun _ => ?_)) | refine Pw.list (Pw.alloc rfl rfl rfl rfl rfl (fun _ => ?_)))
  refine Pw.list (Pw.call cFormed_ct rfl rfl rfl (by kernel_rfl) rfl rfl (fun w h => trivial) ?_)
  intro _ _
  repeat (first | refine Pw.runs ?_ | refine Pw.list (Pw.box rfl rfl rfl rfl (fun _ => ?_)) | refine Pw.list (Pw.alloc rfl rfl rfl rfl rfl (fun _ => ?_)))
  refine Pw.list (Pw.call (eId_ct a) rfl rfl rfl (by kernel_rfl) rfl rfl (fun w h => (fx h)) ?_)
  intro _ _
  repeat (first | refine Pw.runs ?_ | refine Pw.list (Pw.box rfl rfl rfl rfl (fun _ => ?_)) | refine Pw.list (Pw.alloc rfl rfl rfl rfl rfl (fun _ => ?_)))
  refine Pw.list (Pw.callB (L0 := []) (eOwn_ct a) rfl rfl rfl rfl (by kernel_rfl) rfl rfl (fun w h => ⟨(fx h), (fx h), (fx h), (fx h)⟩) ?_)
  intro _ _
  refine Pw.eqL (L' := [acB a.lg 2 3]) rfl ?_
  repeat (first | refine Pw.runs ?_ | refine Pw.list (Pw.box rfl rfl rfl rfl (fun _ => ?_)) | refine Pw.list (Pw.alloc rfl rfl rfl rfl rfl (fun _ => ?_)))
  exact Pw.retB (x := ()) (List.Sublist.refl _) (.tmp rfl .nil) rfl trivial (fun w h => by trivial)
theorem lIss_ct (a : Lg) : Ct Tryz.prog 39 #[.pointer (some ⟨a.gl, 0, none⟩)] (lgH a) (fun _ : Unit => .int .u64 5) Tt (fun _ _ => True) := by
  refine Ct.start Tryz.func39 rfl rfl (slots_of rfl slots1) (fun D w0 => ?_)
  repeat (first | refine Pw.runs ?_ | refine Pw.list (Pw.box rfl rfl rfl rfl (fun _ => ?_)) | refine Pw.list (Pw.alloc rfl rfl rfl rfl rfl (fun _ => ?_)))
  exact Pw.ret_ (x := ()) (.tmp rfl .nil) rfl trivial (fun w h => by trivial)
theorem eIss_ct (a : Eg) : Ct Tryz.prog 14 #[.pointer (some ⟨a.gE, 0, none⟩)] (fun W => egH a W ∧ lgH a.lg W) (fun _ : Unit => .int .u64 5) Tt (fun _ _ => True) := by
  refine Ct.start Tryz.func14 rfl rfl (slots_of rfl slots1) (fun D w0 => Pw.facts (G' := [egH a, lgH a.lg]) (fun w h => allCons (fact0 h).1 (allCons (fact0 h).2 allNil)) ?_)
  repeat (first | refine Pw.runs ?_ | refine Pw.list (Pw.box rfl rfl rfl rfl (fun _ => ?_)) | refine Pw.list (Pw.alloc rfl rfl rfl rfl rfl (fun _ => ?_)))
  refine Pw.list (Pw.call (lIss_ct a.lg) rfl rfl rfl (by kernel_rfl) rfl rfl (fun w h => fact1 h) ?_)
  intro _ _
  repeat (first | refine Pw.runs ?_ | refine Pw.list (Pw.box rfl rfl rfl rfl (fun _ => ?_)) | refine Pw.list (Pw.alloc rfl rfl rfl rfl rfl (fun _ => ?_)))
  exact Pw.ret_ (x := ()) (.tmp rfl .nil) rfl trivial (fun w h => by trivial)
theorem egAwake_ct : Ct Tryz.prog 4 #[] (fun _ => True) (fun _ : Unit => .bool true) Tt (fun _ _ => True) := by
  refine Ct.start Tryz.func4 rfl rfl (slots_of rfl slots0) (fun D w0 => ?_)
  repeat (first | refine Pw.runs ?_ | refine Pw.list (Pw.box rfl rfl rfl rfl (fun _ => ?_)) | refine Pw.list (Pw.alloc rfl rfl rfl rfl rfl (fun _ => ?_)))
  refine Pw.list (Pw.lit1 rfl rfl rfl rfl rfl rfl rfl rfl rfl (fun g1 => freeHead ?_))
  repeat (first | refine Pw.runs ?_ | refine Pw.list (Pw.box rfl rfl rfl rfl (fun _ => ?_)) | refine Pw.list (Pw.alloc rfl rfl rfl rfl rfl (fun _ => ?_)))
  refine Pw.list (Pw.callB (L0 := []) (eNew_ct (some ⟨g1, 0, none⟩, 1)) rfl rfl rfl rfl (by kernel_rfl) rfl rfl (fun w h => ints_of_row' (l := [5]) (fact0 h) (Nat.le_refl _) (by simp [maxLen])) ?_)
  rintro a _
  refine Pw.eqL (L' := [acB a.lg 5 0]) rfl ?_
  refine Pw.facts (G' := [egH a, lgH a.lg, voH a.vo, vmH a.vo]) (fun w h => allCons (fact0 h : egF a w).1 (allCons (fact0 h : egF a w).2.1 (allCons (fact0 h : egF a w).2.2.1 (allCons (fact0 h : egF a w).2.2.2 allNil)))) ?_
  repeat (first | refine Pw.runs ?_ | refine Pw.list (Pw.box rfl rfl rfl rfl (fun _ => ?_)) | refine Pw.list (Pw.alloc rfl rfl rfl rfl rfl (fun _ => ?_)))
  refine Pw.list (Pw.callB (L0 := []) (eDo_ct a) rfl rfl rfl rfl (by kernel_rfl) rfl rfl (fun w h => ⟨fact0 h, fact1 h, fact2 h, (fx h)⟩) ?_)
  intro _ _
  refine Pw.eqL (L' := [acB a.lg 2 3]) rfl ?_
  repeat (first | refine Pw.runs ?_ | refine Pw.list (Pw.box rfl rfl rfl rfl (fun _ => ?_)) | refine Pw.list (Pw.alloc rfl rfl rfl rfl rfl (fun _ => ?_)))
  refine Pw.list (Pw.call (eIss_ct a) rfl rfl rfl (by kernel_rfl) rfl rfl (fun w h => ⟨(fx h), (fx h)⟩) ?_)
  intro _ _
  repeat (first | refine Pw.runs ?_ | refine Pw.list (Pw.box rfl rfl rfl rfl (fun _ => ?_)) | refine Pw.list (Pw.alloc rfl rfl rfl rfl rfl (fun _ => ?_)))
  exact Pw.ret_ (x := ()) (.tmp rfl .nil) rfl trivial (fun w h => by trivial)
end Go.Proofs.Wk
/- EngineNil. -/
namespace Go.Proofs.Wk
open Go.RowKit
set_option maxRecDepth 100000
set_option maxHeartbeats 8000000
set_option linter.unusedVariables false
set_option linter.unusedSimpArgs false
attribute [local irreducible] Pw OpG
abbrev clV (k w a b c : Int) (A1 : Option Addr) (n1 c1 : Nat) (A2 : Option Addr) (n2 c2 : Nat) : Value := .agg #[.int .i64 k, .int .i64 w, .int .u64 a, .int .u64 b, .int .u64 c, .slice A1 n1 c1, .slice A2 n2 c2]
theorem eTheirs_ct (k w a b c : Int) (A1 : Option Addr) (n1 c1 : Nat) (A2 : Option Addr) (n2 c2 : Nat) : Ct Tryz.prog 9 #[clV k w a b c A1 n1 c1 A2 n2 c2] (fun _ => True) (fun _ : Unit => clV k w a b c A1 n1 c1 A2 n2 c2) Tt (fun _ _ => True) := by
  refine Ct.start Tryz.func9 rfl rfl (slots_of rfl slots1) (fun D w0 => ?_)
  repeat (first | refine Pw.runs ?_ | refine Pw.list (Pw.box rfl rfl rfl rfl (fun _ => ?_)) | refine Pw.list (Pw.alloc rfl rfl rfl rfl rfl (fun _ => ?_)))
  exact Pw.ret_ (x := ()) (.cell rfl (fun w hs => hs.own _ (.head _)) rfl .nil) rfl trivial (fun w h => by trivial)
theorem EngineNil_ct (k w a b c : Int) (A1 : Option Addr) (n1 c1 : Nat) (A2 : Option Addr) (n2 c2 : Nat) (id n : Int) : Ct Tryz.prog 3 #[clV k w a b c A1 n1 c1 A2 n2 c2, .int .i64 id, .int .i64 n] (fun _ => True) (fun _ : Unit => .bool true) Tt (fun _ _ => True) := by
  refine Ct.start Tryz.func3 rfl rfl (slots_of rfl slots3) (fun D w0 => ?_)
  repeat (first | refine Pw.runs ?_ | refine Pw.list (Pw.box rfl rfl rfl rfl (fun _ => ?_)) | refine Pw.list (Pw.alloc rfl rfl rfl rfl rfl (fun _ => ?_)))
  refine Pw.list (Pw.call egAwake_ct rfl rfl rfl (by kernel_rfl) rfl rfl (fun w h => trivial) ?_)
  intro _ _
  repeat (first | refine Pw.runs ?_ | refine Pw.list (Pw.box rfl rfl rfl rfl (fun _ => ?_)) | refine Pw.list (Pw.alloc rfl rfl rfl rfl rfl (fun _ => ?_)))
  refine Pw.condD rfl (fun hlen => ?_) (fun hlen => ?_)
  · repeat (first | refine Pw.runs ?_ | refine Pw.list (Pw.box rfl rfl rfl rfl (fun _ => ?_)) | refine Pw.list (Pw.alloc rfl rfl rfl rfl rfl (fun _ => ?_)))
    refine Pw.list (Pw.call egAwake_ct rfl rfl rfl (by kernel_rfl) rfl rfl (fun w h => trivial) ?_)
    intro _ _
    repeat (first | refine Pw.runs ?_ | refine Pw.list (Pw.box rfl rfl rfl rfl (fun _ => ?_)) | refine Pw.list (Pw.alloc rfl rfl rfl rfl rfl (fun _ => ?_)))
    exact Pw.ret_ (x := ()) (.tmp rfl .nil) rfl trivial (fun w h => by trivial)
  repeat (first | refine Pw.runs ?_ | refine Pw.list (Pw.box rfl rfl rfl rfl (fun _ => ?_)) | refine Pw.list (Pw.alloc rfl rfl rfl rfl rfl (fun _ => ?_)))
  refine Pw.list (Pw.call (nAccount_ct id) rfl rfl rfl (by kernel_rfl) rfl rfl (fun w h => trivial) ?_)
  intro _ _
  repeat (first | refine Pw.runs ?_ | refine Pw.list (Pw.box rfl rfl rfl rfl (fun _ => ?_)) | refine Pw.list (Pw.alloc rfl rfl rfl rfl rfl (fun _ => ?_)))
  refine Pw.list (Pw.call (nRole_ct id) rfl rfl rfl (by kernel_rfl) rfl rfl (fun w h => trivial) ?_)
  intro _ _
  repeat (first | refine Pw.runs ?_ | refine Pw.list (Pw.box rfl rfl rfl rfl (fun _ => ?_)) | refine Pw.list (Pw.alloc rfl rfl rfl rfl rfl (fun _ => ?_)))
  refine Pw.list (Pw.call nLast_ct rfl rfl rfl (by kernel_rfl) rfl rfl (fun w h => trivial) ?_)
  intro _ _
  repeat (first | refine Pw.runs ?_ | refine Pw.list (Pw.box rfl rfl rfl rfl (fun _ => ?_)) | refine Pw.list (Pw.alloc rfl rfl rfl rfl rfl (fun _ => ?_)))
  refine Pw.list (Pw.call (eTheirs_ct k w a b c A1 n1 c1 A2 n2 c2) rfl rfl rfl (by kernel_rfl) rfl rfl (fun w h => trivial) ?_)
  intro _ _
  repeat (first | refine Pw.runs ?_ | refine Pw.list (Pw.box rfl rfl rfl rfl (fun _ => ?_)) | refine Pw.list (Pw.alloc rfl rfl rfl rfl rfl (fun _ => ?_)))
  refine Pw.list (Pw.call (nDo_ct k w a b c _ _) rfl rfl rfl (by kernel_rfl) rfl rfl (fun w h => trivial) ?_)
  intro _ _
  repeat (first | refine Pw.runs ?_ | refine Pw.list (Pw.box rfl rfl rfl rfl (fun _ => ?_)) | refine Pw.list (Pw.alloc rfl rfl rfl rfl rfl (fun _ => ?_)))
  refine Pw.list (Pw.call nEra_ct rfl rfl rfl (by kernel_rfl) rfl rfl (fun w h => trivial) ?_)
  intro _ _
  repeat (first | refine Pw.runs ?_ | refine Pw.list (Pw.box rfl rfl rfl rfl (fun _ => ?_)) | refine Pw.list (Pw.alloc rfl rfl rfl rfl rfl (fun _ => ?_)))
  refine Pw.list (Pw.call nPhase_ct rfl rfl rfl (by kernel_rfl) rfl rfl (fun w h => trivial) ?_)
  intro _ _
  repeat (first | refine Pw.runs ?_ | refine Pw.list (Pw.box rfl rfl rfl rfl (fun _ => ?_)) | refine Pw.list (Pw.alloc rfl rfl rfl rfl rfl (fun _ => ?_)))
  refine Pw.list (Pw.call nTreasury_ct rfl rfl rfl (by kernel_rfl) rfl rfl (fun w h => trivial) ?_)
  intro _ _
  repeat (first | refine Pw.runs ?_ | refine Pw.list (Pw.box rfl rfl rfl rfl (fun _ => ?_)) | refine Pw.list (Pw.alloc rfl rfl rfl rfl rfl (fun _ => ?_)))
  refine Pw.list (Pw.call nPot_ct rfl rfl rfl (by kernel_rfl) rfl rfl (fun w h => trivial) ?_)
  intro _ _
  repeat (first | refine Pw.runs ?_ | refine Pw.list (Pw.box rfl rfl rfl rfl (fun _ => ?_)) | refine Pw.list (Pw.alloc rfl rfl rfl rfl rfl (fun _ => ?_)))
  refine Pw.list (Pw.call nIssuance_ct rfl rfl rfl (by kernel_rfl) rfl rfl (fun w h => trivial) ?_)
  intro _ _
  repeat (first | refine Pw.runs ?_ | refine Pw.list (Pw.box rfl rfl rfl rfl (fun _ => ?_)) | refine Pw.list (Pw.alloc rfl rfl rfl rfl rfl (fun _ => ?_)))
  refine Pw.list (Pw.call nOrder_ct rfl rfl rfl (by kernel_rfl) rfl rfl (fun w h => trivial) ?_)
  intro _ _
  repeat (first | refine Pw.runs ?_ | refine Pw.list (Pw.box rfl rfl rfl rfl (fun _ => ?_)) | refine Pw.list (Pw.alloc rfl rfl rfl rfl rfl (fun _ => ?_)))
  refine Pw.list (Pw.call nSnapshot_ct rfl rfl rfl (by kernel_rfl) rfl rfl (fun w h => trivial) ?_)
  intro _ _
  repeat (first | refine Pw.runs ?_ | refine Pw.list (Pw.box rfl rfl rfl rfl (fun _ => ?_)) | refine Pw.list (Pw.alloc rfl rfl rfl rfl rfl (fun _ => ?_)))
  refine Pw.list (Pw.call (nExposures_ct n) rfl rfl rfl (by kernel_rfl) rfl rfl (fun w h => trivial) ?_)
  intro _ _
  repeat (first | refine Pw.runs ?_ | refine Pw.list (Pw.box rfl rfl rfl rfl (fun _ => ?_)) | refine Pw.list (Pw.alloc rfl rfl rfl rfl rfl (fun _ => ?_)))
  refine Pw.list (Pw.call (nPoints_ct n id) rfl rfl rfl (by kernel_rfl) rfl rfl (fun w h => trivial) ?_)
  intro _ _
  repeat (first | refine Pw.runs ?_ | refine Pw.list (Pw.box rfl rfl rfl rfl (fun _ => ?_)) | refine Pw.list (Pw.alloc rfl rfl rfl rfl rfl (fun _ => ?_)))
  refine Pw.list (Pw.call (nPaid_ct n id 0) rfl rfl rfl (by kernel_rfl) rfl rfl (fun w h => trivial) ?_)
  intro _ _
  repeat (first | refine Pw.runs ?_ | refine Pw.list (Pw.box rfl rfl rfl rfl (fun _ => ?_)) | refine Pw.list (Pw.alloc rfl rfl rfl rfl rfl (fun _ => ?_)))
  refine Pw.list (Pw.call (nCharged_ct id n) rfl rfl rfl (by kernel_rfl) rfl rfl (fun w h => trivial) ?_)
  intro _ _
  repeat (first | refine Pw.runs ?_ | refine Pw.list (Pw.box rfl rfl rfl rfl (fun _ => ?_)) | refine Pw.list (Pw.alloc rfl rfl rfl rfl rfl (fun _ => ?_)))
  refine Pw.list (Pw.call nDeferred_ct rfl rfl rfl (by kernel_rfl) rfl rfl (fun w h => trivial) ?_)
  intro _ _
  repeat (first | refine Pw.runs ?_ | refine Pw.list (Pw.box rfl rfl rfl rfl (fun _ => ?_)) | refine Pw.list (Pw.alloc rfl rfl rfl rfl rfl (fun _ => ?_)))
  exact Pw.ret_ (x := ()) (.tmp rfl .nil) rfl trivial (fun w h => by trivial)
end Go.Proofs.Wk
