/- Walks and their mathematics, merged. No conditions beyond those written. -/
import Derived.Test.YtmmefkianpbghaaGreatWmBalanceTurns4
/- The laws of balance: helpers walked. -/
namespace Go.Proofs.Wk
open Go.RowKit
set_option maxRecDepth 100000
set_option maxHeartbeats 4000000
attribute [local irreducible] Pw OpG
set_option linter.unusedVariables false
set_option linter.unusedSimpArgs false
theorem bfew_ct (l : List Rt) (x : Option Addr × Nat) : Ct Tryz.prog 5 #[rsV l x] (RS l x) (fun r : Bool => .bool r) (fun r => r = true → l.length ≤ 20 ∧ ∀ s ∈ l, s.a.length ≤ 6 ∧ s.b.length ≤ 4) (fun _ _ => True) := by
  obtain ⟨A, c⟩ := x
  refine Ct.start Tryz.func5 rfl rfl (slots_of rfl slots1) (fun D w0 => ?_)
  refine Pw.use (p := l.length ≤ maxLen) (fun w h => (fact0 h).top) (fun htop => ?_)
  have htop := top63 htop
  repeat (first | (with_reducible first | refine Pw.seq ?_ | refine Pw.region ?_ | refine Pw.nil ?_ | refine Pw.then_ ?_ | refine Pw.skip ?_ | refine Pw.block ?_ | refine Pw.exit ?_ | refine Pw.inX ?_ | refine Pw.inN ?_ | refine Pw.inR ?_ | refine Pw.thenX ?_ | refine Pw.thenR ?_ | refine Pw.ret ?_) | refine Pw.list (Pw.pure rfl rfl rfl ?_) | refine Pw.inY rfl ?_ | refine Pw.list (Pw.off rfl rfl ?_) | refine Pw.condT rfl ?_ | refine Pw.condF rfl ?_ | refine Pw.list (Pw.box rfl rfl rfl rfl (fun _ => ?_)) | refine Pw.list (Pw.alloc rfl rfl rfl rfl rfl (fun _ => ?_)) | refine Pw.list (Pw.build rfl rfl rfl rfl ?_) | refine Pw.list (Pw.ld rfl inferInstance rfl rfl rfl ?_) | refine Pw.list (Pw.sto rfl rfl inferInstance rfl rfl rfl rfl rfl inferInstance rfl ?_))
  refine Pw.loopJ (σ := Nat) (fun i => i ≤ l.length ∧ i ≤ 20 ∧ ∀ s ∈ l.take i, s.a.length ≤ 6 ∧ s.b.length ≤ 4) (fun i => ⟨[(0, .slice A l.length c), (5, .int .i64 l.length), (6, .int .i64 i)], [], [RS l (A, c)]⟩) (fun i => l.length - i) 0 ⟨Nat.zero_le _, by omega, fun s hs => by simp at hs⟩ (Pw.enter ⟨rfl, rfl, rfl, trivial⟩ (fun _ h => h)) ?_
  rintro i ⟨hi, hm, hs⟩
  dsimp only at hi hm hs ⊢
  repeat (first | (with_reducible first | refine Pw.seq ?_ | refine Pw.region ?_ | refine Pw.nil ?_ | refine Pw.then_ ?_ | refine Pw.skip ?_ | refine Pw.block ?_ | refine Pw.exit ?_ | refine Pw.inX ?_ | refine Pw.inN ?_ | refine Pw.inR ?_ | refine Pw.thenX ?_ | refine Pw.thenR ?_ | refine Pw.ret ?_) | refine Pw.list (Pw.pure rfl rfl rfl ?_) | refine Pw.inY rfl ?_ | refine Pw.list (Pw.off rfl rfl ?_) | refine Pw.condT rfl ?_ | refine Pw.condF rfl ?_ | refine Pw.list (Pw.box rfl rfl rfl rfl (fun _ => ?_)) | refine Pw.list (Pw.alloc rfl rfl rfl rfl rfl (fun _ => ?_)) | refine Pw.list (Pw.build rfl rfl rfl rfl ?_) | refine Pw.list (Pw.ld rfl inferInstance rfl rfl rfl ?_) | refine Pw.list (Pw.sto rfl rfl inferInstance rfl rfl rfl rfl rfl inferInstance rfl ?_))
  refine Pw.condD rfl (fun c3 => ?_) (fun c3 => ?_)
  · obtain ⟨s, hsi, hsm⟩ := get_at (show i < l.length by omega)
    repeat (first | (with_reducible first | refine Pw.seq ?_ | refine Pw.region ?_ | refine Pw.nil ?_ | refine Pw.then_ ?_ | refine Pw.skip ?_ | refine Pw.block ?_ | refine Pw.exit ?_ | refine Pw.inX ?_ | refine Pw.inN ?_ | refine Pw.inR ?_ | refine Pw.thenX ?_ | refine Pw.thenR ?_ | refine Pw.ret ?_) | refine Pw.list (Pw.pure rfl rfl rfl ?_) | refine Pw.inY rfl ?_ | refine Pw.list (Pw.off rfl rfl ?_) | refine Pw.condT rfl ?_ | refine Pw.condF rfl ?_ | refine Pw.list (Pw.box rfl rfl rfl rfl (fun _ => ?_)) | refine Pw.list (Pw.alloc rfl rfl rfl rfl rfl (fun _ => ?_)) | refine Pw.list (Pw.build rfl rfl rfl rfl ?_) | refine Pw.list (Pw.ld rfl inferInstance rfl rfl rfl ?_) | refine Pw.list (Pw.sto rfl rfl inferInstance rfl rfl rfl rfl rfl inferInstance rfl ?_))
    refine Pw.split 11 rfl (fun c4 => ?_) (fun c4 => ?_)
    · repeat (first | (with_reducible first | refine Pw.seq ?_ | refine Pw.region ?_ | refine Pw.nil ?_ | refine Pw.then_ ?_ | refine Pw.skip ?_ | refine Pw.block ?_ | refine Pw.exit ?_ | refine Pw.inX ?_ | refine Pw.inN ?_ | refine Pw.inR ?_ | refine Pw.thenX ?_ | refine Pw.thenR ?_ | refine Pw.ret ?_) | refine Pw.list (Pw.pure rfl rfl rfl ?_) | refine Pw.inY rfl ?_ | refine Pw.list (Pw.off rfl rfl ?_) | refine Pw.condT rfl ?_ | refine Pw.condF rfl ?_ | refine Pw.list (Pw.box rfl rfl rfl rfl (fun _ => ?_)) | refine Pw.list (Pw.alloc rfl rfl rfl rfl rfl (fun _ => ?_)) | refine Pw.list (Pw.build rfl rfl rfl rfl ?_) | refine Pw.list (Pw.ld rfl inferInstance rfl rfl rfl ?_) | refine Pw.list (Pw.sto rfl rfl inferInstance rfl rfl rfl rfl rfl inferInstance rfl ?_))
      exact Pw.ret_ (x := false) (.tmp rfl .nil) rfl (fun e => by cases e) (fun w h => by trivial)
    repeat (first | (with_reducible first | refine Pw.seq ?_ | refine Pw.region ?_ | refine Pw.nil ?_ | refine Pw.then_ ?_ | refine Pw.skip ?_ | refine Pw.block ?_ | refine Pw.exit ?_ | refine Pw.inX ?_ | refine Pw.inN ?_ | refine Pw.inR ?_ | refine Pw.thenX ?_ | refine Pw.thenR ?_ | refine Pw.ret ?_) | refine Pw.list (Pw.pure rfl rfl rfl ?_) | refine Pw.inY rfl ?_ | refine Pw.list (Pw.off rfl rfl ?_) | refine Pw.condT rfl ?_ | refine Pw.condF rfl ?_ | refine Pw.list (Pw.box rfl rfl rfl rfl (fun _ => ?_)) | refine Pw.list (Pw.alloc rfl rfl rfl rfl rfl (fun _ => ?_)) | refine Pw.list (Pw.build rfl rfl rfl rfl ?_) | refine Pw.list (Pw.ld rfl inferInstance rfl rfl rfl ?_) | refine Pw.list (Pw.sto rfl rfl inferInstance rfl rfl rfl rfl rfl inferInstance rfl ?_))
    refine Pw.list (Pw.index rfl rfl rfl rfl (Int.natCast_nonneg i) c3 (fun w h => (hv w h : RS l (A, c) w).has (Int.natCast_nonneg i) c3) rfl rfl ?_)
    rintro ad rfl
    refine Pw.list (Pw.fieldS rfl rfl rfl rfl rfl rfl rfl ?_)
    refine Pw.list (Pw.loadF s rfl inferInstance rfl (by rw [Int.toNat_natCast]; exact hsi) rfl rfl rfl rfl ?_)
    repeat (first | (with_reducible first | refine Pw.seq ?_ | refine Pw.region ?_ | refine Pw.nil ?_ | refine Pw.then_ ?_ | refine Pw.skip ?_ | refine Pw.block ?_ | refine Pw.exit ?_ | refine Pw.inX ?_ | refine Pw.inN ?_ | refine Pw.inR ?_ | refine Pw.thenX ?_ | refine Pw.thenR ?_ | refine Pw.ret ?_) | refine Pw.list (Pw.pure rfl rfl rfl ?_) | refine Pw.inY rfl ?_ | refine Pw.list (Pw.off rfl rfl ?_) | refine Pw.condT rfl ?_ | refine Pw.condF rfl ?_ | refine Pw.list (Pw.box rfl rfl rfl rfl (fun _ => ?_)) | refine Pw.list (Pw.alloc rfl rfl rfl rfl rfl (fun _ => ?_)) | refine Pw.list (Pw.build rfl rfl rfl rfl ?_) | refine Pw.list (Pw.ld rfl inferInstance rfl rfl rfl ?_) | refine Pw.list (Pw.sto rfl rfl inferInstance rfl rfl rfl rfl rfl inferInstance rfl ?_))
    refine Pw.split 20 rfl (fun c5 => ?_) (fun c5 => ?_)
    · repeat (first | (with_reducible first | refine Pw.seq ?_ | refine Pw.region ?_ | refine Pw.nil ?_ | refine Pw.then_ ?_ | refine Pw.skip ?_ | refine Pw.block ?_ | refine Pw.exit ?_ | refine Pw.inX ?_ | refine Pw.inN ?_ | refine Pw.inR ?_ | refine Pw.thenX ?_ | refine Pw.thenR ?_ | refine Pw.ret ?_) | refine Pw.list (Pw.pure rfl rfl rfl ?_) | refine Pw.inY rfl ?_ | refine Pw.list (Pw.off rfl rfl ?_) | refine Pw.condT rfl ?_ | refine Pw.condF rfl ?_ | refine Pw.list (Pw.box rfl rfl rfl rfl (fun _ => ?_)) | refine Pw.list (Pw.alloc rfl rfl rfl rfl rfl (fun _ => ?_)) | refine Pw.list (Pw.build rfl rfl rfl rfl ?_) | refine Pw.list (Pw.ld rfl inferInstance rfl rfl rfl ?_) | refine Pw.list (Pw.sto rfl rfl inferInstance rfl rfl rfl rfl rfl inferInstance rfl ?_))
      exact Pw.ret_ (x := false) (.tmp rfl .nil) rfl (fun e => by cases e) (fun w h => by trivial)
    repeat (first | (with_reducible first | refine Pw.seq ?_ | refine Pw.region ?_ | refine Pw.nil ?_ | refine Pw.then_ ?_ | refine Pw.skip ?_ | refine Pw.block ?_ | refine Pw.exit ?_ | refine Pw.inX ?_ | refine Pw.inN ?_ | refine Pw.inR ?_ | refine Pw.thenX ?_ | refine Pw.thenR ?_ | refine Pw.ret ?_) | refine Pw.list (Pw.pure rfl rfl rfl ?_) | refine Pw.inY rfl ?_ | refine Pw.list (Pw.off rfl rfl ?_) | refine Pw.condT rfl ?_ | refine Pw.condF rfl ?_ | refine Pw.list (Pw.box rfl rfl rfl rfl (fun _ => ?_)) | refine Pw.list (Pw.alloc rfl rfl rfl rfl rfl (fun _ => ?_)) | refine Pw.list (Pw.build rfl rfl rfl rfl ?_) | refine Pw.list (Pw.ld rfl inferInstance rfl rfl rfl ?_) | refine Pw.list (Pw.sto rfl rfl inferInstance rfl rfl rfl rfl rfl inferInstance rfl ?_))
    refine Pw.list (Pw.indexS rfl rfl rfl rfl (Int.natCast_nonneg i) c3 rfl rfl ?_)
    refine Pw.list (Pw.fieldS rfl rfl rfl rfl rfl rfl rfl ?_)
    refine Pw.list (Pw.loadF s rfl inferInstance rfl (by rw [Int.toNat_natCast]; exact hsi) rfl rfl rfl rfl ?_)
    repeat (first | (with_reducible first | refine Pw.seq ?_ | refine Pw.region ?_ | refine Pw.nil ?_ | refine Pw.then_ ?_ | refine Pw.skip ?_ | refine Pw.block ?_ | refine Pw.exit ?_ | refine Pw.inX ?_ | refine Pw.inN ?_ | refine Pw.inR ?_ | refine Pw.thenX ?_ | refine Pw.thenR ?_ | refine Pw.ret ?_) | refine Pw.list (Pw.pure rfl rfl rfl ?_) | refine Pw.inY rfl ?_ | refine Pw.list (Pw.off rfl rfl ?_) | refine Pw.condT rfl ?_ | refine Pw.condF rfl ?_ | refine Pw.list (Pw.box rfl rfl rfl rfl (fun _ => ?_)) | refine Pw.list (Pw.alloc rfl rfl rfl rfl rfl (fun _ => ?_)) | refine Pw.list (Pw.build rfl rfl rfl rfl ?_) | refine Pw.list (Pw.ld rfl inferInstance rfl rfl rfl ?_) | refine Pw.list (Pw.sto rfl rfl inferInstance rfl rfl rfl rfl rfl inferInstance rfl ?_))
    refine Pw.condD rfl (fun c6 => ?_) (fun c6 => ?_)
    · repeat (first | (with_reducible first | refine Pw.seq ?_ | refine Pw.region ?_ | refine Pw.nil ?_ | refine Pw.then_ ?_ | refine Pw.skip ?_ | refine Pw.block ?_ | refine Pw.exit ?_ | refine Pw.inX ?_ | refine Pw.inN ?_ | refine Pw.inR ?_ | refine Pw.thenX ?_ | refine Pw.thenR ?_ | refine Pw.ret ?_) | refine Pw.list (Pw.pure rfl rfl rfl ?_) | refine Pw.inY rfl ?_ | refine Pw.list (Pw.off rfl rfl ?_) | refine Pw.condT rfl ?_ | refine Pw.condF rfl ?_ | refine Pw.list (Pw.box rfl rfl rfl rfl (fun _ => ?_)) | refine Pw.list (Pw.alloc rfl rfl rfl rfl rfl (fun _ => ?_)) | refine Pw.list (Pw.build rfl rfl rfl rfl ?_) | refine Pw.list (Pw.ld rfl inferInstance rfl rfl rfl ?_) | refine Pw.list (Pw.sto rfl rfl inferInstance rfl rfl rfl rfl rfl inferInstance rfl ?_))
      exact Pw.ret_ (x := false) (.tmp rfl .nil) rfl (fun e => by cases e) (fun w h => by trivial)
    repeat (first | (with_reducible first | refine Pw.seq ?_ | refine Pw.region ?_ | refine Pw.nil ?_ | refine Pw.then_ ?_ | refine Pw.skip ?_ | refine Pw.block ?_ | refine Pw.exit ?_ | refine Pw.inX ?_ | refine Pw.inN ?_ | refine Pw.inR ?_ | refine Pw.thenX ?_ | refine Pw.thenR ?_ | refine Pw.ret ?_) | refine Pw.list (Pw.pure rfl rfl rfl ?_) | refine Pw.inY rfl ?_ | refine Pw.list (Pw.off rfl rfl ?_) | refine Pw.condT rfl ?_ | refine Pw.condF rfl ?_ | refine Pw.list (Pw.box rfl rfl rfl rfl (fun _ => ?_)) | refine Pw.list (Pw.alloc rfl rfl rfl rfl rfl (fun _ => ?_)) | refine Pw.list (Pw.build rfl rfl rfl rfl ?_) | refine Pw.list (Pw.ld rfl inferInstance rfl rfl rfl ?_) | refine Pw.list (Pw.sto rfl rfl inferInstance rfl rfl rfl rfl rfl inferInstance rfl ?_))
    refine Pw.re (d := 6) (v' := .int .i64 ((i + 1 : Nat) : Int)) rfl (congrArg (Value.int .i64) (i64s (n := 100000) (by omega) (by omega))) ?_
    exact Pw.again (i + 1) ⟨by omega, by omega, fun t ht => by
      rw [take_snoc hsi] at ht
      rcases List.mem_append.1 ht with ht | ht
      · exact hs t ht
      · rw [List.mem_singleton.1 ht]; omega⟩ (by show l.length - (i + 1) < l.length - i; omega) ⟨rfl, rfl, rfl, trivial⟩ rfl (fun w h => allCons (hv w h) allNil)
  · repeat (first | (with_reducible first | refine Pw.seq ?_ | refine Pw.region ?_ | refine Pw.nil ?_ | refine Pw.then_ ?_ | refine Pw.skip ?_ | refine Pw.block ?_ | refine Pw.exit ?_ | refine Pw.inX ?_ | refine Pw.inN ?_ | refine Pw.inR ?_ | refine Pw.thenX ?_ | refine Pw.thenR ?_ | refine Pw.ret ?_) | refine Pw.list (Pw.pure rfl rfl rfl ?_) | refine Pw.inY rfl ?_ | refine Pw.list (Pw.off rfl rfl ?_) | refine Pw.condT rfl ?_ | refine Pw.condF rfl ?_ | refine Pw.list (Pw.box rfl rfl rfl rfl (fun _ => ?_)) | refine Pw.list (Pw.alloc rfl rfl rfl rfl rfl (fun _ => ?_)) | refine Pw.list (Pw.build rfl rfl rfl rfl ?_) | refine Pw.list (Pw.ld rfl inferInstance rfl rfl rfl ?_) | refine Pw.list (Pw.sto rfl rfl inferInstance rfl rfl rfl rfl rfl inferInstance rfl ?_))
    exact Pw.ret_ (x := true) (.tmp rfl .nil) rfl (fun _ => by
      rw [List.take_of_length_le (by omega)] at hs; exact ⟨by omega, hs⟩) (fun w h => by trivial)
theorem btheirs_ct (l : List Rt) (x : Option Addr × Nat) (hl : l.length ≤ 1000) : Ct Tryz.prog 7 #[rsV l x] (RS l x) (fun z : Option Addr × Nat => rsV l z) Tt (fun z => RS l z) := by
  obtain ⟨A, c⟩ := x
  have htop : l.length ≤ 9223372036854775807 := by omega
  refine Ct.start Tryz.func7 rfl rfl (slots_of rfl slots1) (fun D w0 => ?_)
  repeat (first | (with_reducible first | refine Pw.seq ?_ | refine Pw.region ?_ | refine Pw.nil ?_ | refine Pw.then_ ?_ | refine Pw.skip ?_ | refine Pw.block ?_ | refine Pw.exit ?_ | refine Pw.inX ?_ | refine Pw.inN ?_ | refine Pw.inR ?_ | refine Pw.thenX ?_ | refine Pw.thenR ?_ | refine Pw.ret ?_) | refine Pw.list (Pw.pure rfl rfl rfl ?_) | refine Pw.inY rfl ?_ | refine Pw.list (Pw.off rfl rfl ?_) | refine Pw.condT rfl ?_ | refine Pw.condF rfl ?_ | refine Pw.list (Pw.box rfl rfl rfl rfl (fun _ => ?_)) | refine Pw.list (Pw.alloc rfl rfl rfl rfl rfl (fun _ => ?_)) | refine Pw.list (Pw.build rfl rfl rfl rfl ?_) | refine Pw.list (Pw.ld rfl inferInstance rfl rfl rfl ?_) | refine Pw.list (Pw.sto rfl rfl inferInstance rfl rfl rfl rfl rfl inferInstance rfl ?_))
  refine Pw.loopJ (σ := Nat × Gr) (fun t => t.1 ≤ l.length ∧ gOk t.2 (cellsR (l.take t.1)) t.1 2) (fun t => ⟨[(0, .slice A l.length c), (3, gv t.2 t.1), (6, .int .i64 l.length), (7, .int .i64 t.1)], gL1 t.2 (cellsR (l.take t.1)) 37, [RS l (A, c)]⟩) (fun t => l.length - t.1) (0, none) ⟨Nat.zero_le _, rfl, rfl⟩ (Pw.enter ⟨rfl, rfl, rfl, rfl, trivial⟩ (fun _ h => h)) ?_
  rintro ⟨i, q⟩ ⟨hi, hq⟩
  dsimp only at hi hq ⊢
  repeat (first | (with_reducible first | refine Pw.seq ?_ | refine Pw.region ?_ | refine Pw.nil ?_ | refine Pw.then_ ?_ | refine Pw.skip ?_ | refine Pw.block ?_ | refine Pw.exit ?_ | refine Pw.inX ?_ | refine Pw.inN ?_ | refine Pw.inR ?_ | refine Pw.thenX ?_ | refine Pw.thenR ?_ | refine Pw.ret ?_) | refine Pw.list (Pw.pure rfl rfl rfl ?_) | refine Pw.inY rfl ?_ | refine Pw.list (Pw.off rfl rfl ?_) | refine Pw.condT rfl ?_ | refine Pw.condF rfl ?_ | refine Pw.list (Pw.box rfl rfl rfl rfl (fun _ => ?_)) | refine Pw.list (Pw.alloc rfl rfl rfl rfl rfl (fun _ => ?_)) | refine Pw.list (Pw.build rfl rfl rfl rfl ?_) | refine Pw.list (Pw.ld rfl inferInstance rfl rfl rfl ?_) | refine Pw.list (Pw.sto rfl rfl inferInstance rfl rfl rfl rfl rfl inferInstance rfl ?_))
  refine Pw.condD rfl (fun c3 => ?_) (fun c3 => ?_)
  · obtain ⟨s, hs, hm⟩ := get_at (show i < l.length by omega)
    repeat (first | (with_reducible first | refine Pw.seq ?_ | refine Pw.region ?_ | refine Pw.nil ?_ | refine Pw.then_ ?_ | refine Pw.skip ?_ | refine Pw.block ?_ | refine Pw.exit ?_ | refine Pw.inX ?_ | refine Pw.inN ?_ | refine Pw.inR ?_ | refine Pw.thenX ?_ | refine Pw.thenR ?_ | refine Pw.ret ?_) | refine Pw.list (Pw.pure rfl rfl rfl ?_) | refine Pw.inY rfl ?_ | refine Pw.list (Pw.off rfl rfl ?_) | refine Pw.condT rfl ?_ | refine Pw.condF rfl ?_ | refine Pw.list (Pw.box rfl rfl rfl rfl (fun _ => ?_)) | refine Pw.list (Pw.alloc rfl rfl rfl rfl rfl (fun _ => ?_)) | refine Pw.list (Pw.build rfl rfl rfl rfl ?_) | refine Pw.list (Pw.ld rfl inferInstance rfl rfl rfl ?_) | refine Pw.list (Pw.sto rfl rfl inferInstance rfl rfl rfl rfl rfl inferInstance rfl ?_))
    refine Pw.list (Pw.index rfl rfl rfl rfl (Int.natCast_nonneg i) c3 (fun w h => (hv w h : RS l (A, c) w).has (Int.natCast_nonneg i) c3) rfl rfl ?_)
    rintro ad rfl
    refine Pw.list (Pw.loadR s rfl inferInstance rfl (by rw [Int.toNat_natCast]; exact hs) (by kernel_rfl) rfl rfl ?_)
    refine Pw.re (d := 14) (v' := rt s.a s.b s.z) rfl rfl ?_
    repeat (first | (with_reducible first | refine Pw.seq ?_ | refine Pw.region ?_ | refine Pw.nil ?_ | refine Pw.then_ ?_ | refine Pw.skip ?_ | refine Pw.block ?_ | refine Pw.exit ?_ | refine Pw.inX ?_ | refine Pw.inN ?_ | refine Pw.inR ?_ | refine Pw.thenX ?_ | refine Pw.thenR ?_ | refine Pw.ret ?_) | refine Pw.list (Pw.pure rfl rfl rfl ?_) | refine Pw.inY rfl ?_ | refine Pw.list (Pw.off rfl rfl ?_) | refine Pw.condT rfl ?_ | refine Pw.condF rfl ?_ | refine Pw.list (Pw.box rfl rfl rfl rfl (fun _ => ?_)) | refine Pw.list (Pw.alloc rfl rfl rfl rfl rfl (fun _ => ?_)) | refine Pw.list (Pw.build rfl rfl rfl rfl ?_) | refine Pw.list (Pw.ld rfl inferInstance rfl rfl rfl ?_) | refine Pw.list (Pw.sto rfl rfl inferInstance rfl rfl rfl rfl rfl inferInstance rfl ?_))
    refine Pw.list (Pw.call (Theirs_ct s.a s.b s.z) rfl rfl rfl (by kernel_rfl) rfl rfl (fun w h => trivial) ?_)
    intro _ _
    refine Pw.list (Pw.lit12 rfl rfl rfl rfl rfl rfl rfl rfl rfl (fun g1 => freeHead ?_))
    refine Pw.list (Pw.push (s := q) (m := i) (cells := cellsR (l.take i)) (news := encR s) (L0 := []) rfl rfl rfl rfl rfl rfl rfl hq rfl (encR_one s) (fun w hs j u hu => by
      have h1 : w.heap[g1]? = some (row (encR s) 37) := fact0 hs.all
      rw [add_none, cell_of_blk h1]
      simpa using hu) (by omega) (by simp only [maxLen]; omega) (by show (i + 1) * 48 ≤ _; omega) rfl rfl (fun q' hq' => ?_))
    rw [← cellsR_snoc, ← take_snoc hs] at hq' ⊢
    repeat (first | (with_reducible first | refine Pw.seq ?_ | refine Pw.region ?_ | refine Pw.nil ?_ | refine Pw.then_ ?_ | refine Pw.skip ?_ | refine Pw.block ?_ | refine Pw.exit ?_ | refine Pw.inX ?_ | refine Pw.inN ?_ | refine Pw.inR ?_ | refine Pw.thenX ?_ | refine Pw.thenR ?_ | refine Pw.ret ?_) | refine Pw.list (Pw.pure rfl rfl rfl ?_) | refine Pw.inY rfl ?_ | refine Pw.list (Pw.off rfl rfl ?_) | refine Pw.condT rfl ?_ | refine Pw.condF rfl ?_ | refine Pw.list (Pw.box rfl rfl rfl rfl (fun _ => ?_)) | refine Pw.list (Pw.alloc rfl rfl rfl rfl rfl (fun _ => ?_)) | refine Pw.list (Pw.build rfl rfl rfl rfl ?_) | refine Pw.list (Pw.ld rfl inferInstance rfl rfl rfl ?_) | refine Pw.list (Pw.sto rfl rfl inferInstance rfl rfl rfl rfl rfl inferInstance rfl ?_))
    refine Pw.re (d := 7) (v' := .int .i64 ((i + 1 : Nat) : Int)) rfl (congrArg (Value.int .i64) (i64s (n := 100000) (by omega) (by omega))) ?_
    exact Pw.again (i + 1, q') ⟨by omega, hq'⟩ (by show l.length - (i + 1) < l.length - i; omega) ⟨rfl, rfl, rfl, rfl, trivial⟩ rfl (fun w h => allCons (hv w h) allNil)
  · repeat (first | (with_reducible first | refine Pw.seq ?_ | refine Pw.region ?_ | refine Pw.nil ?_ | refine Pw.then_ ?_ | refine Pw.skip ?_ | refine Pw.block ?_ | refine Pw.exit ?_ | refine Pw.inX ?_ | refine Pw.inN ?_ | refine Pw.inR ?_ | refine Pw.thenX ?_ | refine Pw.thenR ?_ | refine Pw.ret ?_) | refine Pw.list (Pw.pure rfl rfl rfl ?_) | refine Pw.inY rfl ?_ | refine Pw.list (Pw.off rfl rfl ?_) | refine Pw.condT rfl ?_ | refine Pw.condF rfl ?_ | refine Pw.list (Pw.box rfl rfl rfl rfl (fun _ => ?_)) | refine Pw.list (Pw.alloc rfl rfl rfl rfl rfl (fun _ => ?_)) | refine Pw.list (Pw.build rfl rfl rfl rfl ?_) | refine Pw.list (Pw.ld rfl inferInstance rfl rfl rfl ?_) | refine Pw.list (Pw.sto rfl rfl inferInstance rfl rfl rfl rfl rfl inferInstance rfl ?_))
    obtain rfl : i = l.length := by omega
    rw [List.take_length] at hq ⊢
    refine Pw.freeG hq (fun A' c' e hc => ?_)
    rw [e]
    exact Pw.ret_ (x := (A', c')) (.tmp rfl .nil) rfl trivial (fun w h => rows_of_cells (fun _ _ => rfl) (fun y hy => by
      obtain ⟨j, hj⟩ := List.getElem?_of_mem hy
      have h1 : RS l (A, c) w := (hv w h)
      obtain ⟨ad, cs, e1, _, ⟨_, h2⟩, _⟩ := h1.2.2 j y hj
      exact h2) hc (by simp only [maxLen]; omega) (by omega) (fact0 h))
theorem fracN_ct {n : Int} (h : 0 ≤ n) (h' : n ≤ 18446744073709551615) : Ct Tryz.prog 11 #[.int .u64 n, .int .u64 1] (fun _ => True) (fun z : Z2 => qt (n : Rat) z) Tt (fun z => QW (n : Rat) z) := by
  have l1 := ofN_len n; have l2 := ofN_len 1
  refine Ct.start Tryz.func11 rfl rfl (slots_of rfl slots2) (fun D w0 => ?_)
  repeat (first | (with_reducible first | refine Pw.seq ?_ | refine Pw.region ?_ | refine Pw.nil ?_ | refine Pw.then_ ?_ | refine Pw.skip ?_ | refine Pw.block ?_ | refine Pw.exit ?_ | refine Pw.inX ?_ | refine Pw.inN ?_ | refine Pw.inR ?_ | refine Pw.thenX ?_ | refine Pw.thenR ?_ | refine Pw.ret ?_) | refine Pw.list (Pw.pure rfl rfl rfl ?_) | refine Pw.inY rfl ?_ | refine Pw.list (Pw.off rfl rfl ?_) | refine Pw.condT rfl ?_ | refine Pw.condF rfl ?_ | refine Pw.list (Pw.box rfl rfl rfl rfl (fun _ => ?_)) | refine Pw.list (Pw.alloc rfl rfl rfl rfl rfl (fun _ => ?_)) | refine Pw.list (Pw.build rfl rfl rfl rfl ?_) | refine Pw.list (Pw.ld rfl inferInstance rfl rfl rfl ?_) | refine Pw.list (Pw.sto rfl rfl inferInstance rfl rfl rfl rfl rfl inferInstance rfl ?_))
  refine Pw.list (Pw.call (rOf_ct n) rfl rfl rfl (by kernel_rfl) rfl rfl (fun w h => trivial) ?_)
  intro z1 _
  repeat (first | (with_reducible first | refine Pw.seq ?_ | refine Pw.region ?_ | refine Pw.nil ?_ | refine Pw.then_ ?_ | refine Pw.skip ?_ | refine Pw.block ?_ | refine Pw.exit ?_ | refine Pw.inX ?_ | refine Pw.inN ?_ | refine Pw.inR ?_ | refine Pw.thenX ?_ | refine Pw.thenR ?_ | refine Pw.ret ?_) | refine Pw.list (Pw.pure rfl rfl rfl ?_) | refine Pw.inY rfl ?_ | refine Pw.list (Pw.off rfl rfl ?_) | refine Pw.condT rfl ?_ | refine Pw.condF rfl ?_ | refine Pw.list (Pw.box rfl rfl rfl rfl (fun _ => ?_)) | refine Pw.list (Pw.alloc rfl rfl rfl rfl rfl (fun _ => ?_)) | refine Pw.list (Pw.build rfl rfl rfl rfl ?_) | refine Pw.list (Pw.ld rfl inferInstance rfl rfl rfl ?_) | refine Pw.list (Pw.sto rfl rfl inferInstance rfl rfl rfl rfl rfl inferInstance rfl ?_))
  refine Pw.list (Pw.call (rOf_ct 1) rfl rfl rfl (by kernel_rfl) rfl rfl (fun w h => trivial) ?_)
  intro z2 _
  repeat (first | (with_reducible first | refine Pw.seq ?_ | refine Pw.region ?_ | refine Pw.nil ?_ | refine Pw.then_ ?_ | refine Pw.skip ?_ | refine Pw.block ?_ | refine Pw.exit ?_ | refine Pw.inX ?_ | refine Pw.inN ?_ | refine Pw.inR ?_ | refine Pw.thenX ?_ | refine Pw.thenR ?_ | refine Pw.ret ?_) | refine Pw.list (Pw.pure rfl rfl rfl ?_) | refine Pw.inY rfl ?_ | refine Pw.list (Pw.off rfl rfl ?_) | refine Pw.condT rfl ?_ | refine Pw.condF rfl ?_ | refine Pw.list (Pw.box rfl rfl rfl rfl (fun _ => ?_)) | refine Pw.list (Pw.alloc rfl rfl rfl rfl rfl (fun _ => ?_)) | refine Pw.list (Pw.build rfl rfl rfl rfl ?_) | refine Pw.list (Pw.ld rfl inferInstance rfl rfl rfl ?_) | refine Pw.list (Pw.sto rfl rfl inferInstance rfl rfl rfl rfl rfl inferInstance rfl ?_))
  have hc := lowest_ct (ofN n) (ofN 1) z1 z2 (ofN_fm n) (ofN_fm 1) ofN1_len (by omega) (by omega)
  have e : lowS (ofN n) (ofN 1) = (qn (n : Rat), qd (n : Rat)) := by
    rw [ofN_natL h h', ofN_natL (by omega) (by omega), q_low h (by omega), show Rat.divInt n 1 = (n : Rat) by rw [Rat.divInt_eq_div]; grind]
  rw [e] at hc
  refine Pw.list (Pw.call hc rfl rfl rfl (by kernel_rfl) rfl rfl (fun w h => ⟨fact1 h, fact0 h⟩) ?_)
  intro z _
  repeat (first | (with_reducible first | refine Pw.seq ?_ | refine Pw.region ?_ | refine Pw.nil ?_ | refine Pw.then_ ?_ | refine Pw.skip ?_ | refine Pw.block ?_ | refine Pw.exit ?_ | refine Pw.inX ?_ | refine Pw.inN ?_ | refine Pw.inR ?_ | refine Pw.thenX ?_ | refine Pw.thenR ?_ | refine Pw.ret ?_) | refine Pw.list (Pw.pure rfl rfl rfl ?_) | refine Pw.inY rfl ?_ | refine Pw.list (Pw.off rfl rfl ?_) | refine Pw.condT rfl ?_ | refine Pw.condF rfl ?_ | refine Pw.list (Pw.box rfl rfl rfl rfl (fun _ => ?_)) | refine Pw.list (Pw.alloc rfl rfl rfl rfl rfl (fun _ => ?_)) | refine Pw.list (Pw.build rfl rfl rfl rfl ?_) | refine Pw.list (Pw.ld rfl inferInstance rfl rfl rfl ?_) | refine Pw.list (Pw.sto rfl rfl inferInstance rfl rfl rfl rfl rfl inferInstance rfl ?_))
  exact Pw.ret_ (x := z) (.cell rfl (fun w hs => hs.own _ (.head _)) rfl .nil) rfl trivial (fun w h => fact0 h)
theorem qSame_ct {x : Rat} {m : Nat} (hx : Sz m x) (hm : m ≤ 400) (y z : Z2) : Ct Tryz.prog 9 #[qt x y, qt x z] (fun W => QW x y W ∧ QW x z W) (fun _ : Unit => .bool true) Tt (fun _ _ => True) := by
  have h1 := hx.ln; have h2 := hx.ld
  exact rat_Same_ct (qn x) (qd x) y z (natL_fm _) (natL_fm _) (by omega) (by omega)
theorem tq_few {l : List Rt} (hw : ∀ s ∈ l, RtW s) (hs : ∀ s ∈ l, s.a.length ≤ 6 ∧ s.b.length ≤ 4) (st : Int) (hst : 0 ≤ st ∧ st ≤ 18446744073709551615) : ∃ D : Nat, badT l = false → TQ D 34 6 (l.map rq) st := by
  by_cases hb : badT l = false
  · obtain ⟨h1, h2, h3⟩ := badT_no hb
    have hfm : ∀ s ∈ l, formedR s.a s.b = true := fun s hs => by have := List.any_eq_false.1 h3 s hs; simpa using this
    obtain ⟨D, d1, d2, d3⟩ := one_den (n := 4) (l.map rq) (fun x hx => by
      obtain ⟨s, hs', rfl⟩ := List.mem_map.1 hx
      obtain ⟨_, _, _, _, h5⟩ := formed_q (hw s hs').a (hw s hs').b (hfm s hs')
      have l2 := val_lt_pw (hw s hs').b
      have := pw_le (hs s hs').2
      show ((rv s.a s.b).den : Int) ≤ _; omega)
    refine ⟨D, fun _ => ⟨d1, ?_, fun x hx => ?_, hst, by omega, by rw [List.length_map]; exact ⟨h1, h2⟩, by omega⟩⟩
    · rw [List.length_map] at d2
      have h4 := pw_le (show 4 * l.length ≤ 32 by omega)
      have e : pw 34 = pw 32 * 18446744073709551616 := pw_add 32 2
      have := pw_pos 32
      rw [Int.natCast_mul]; omega
    · obtain ⟨s, hs', rfl⟩ := List.mem_map.1 hx
      have hz := formed_sz (hw s hs').a (hw s hs').b (hfm s hs') (n := 6) (hs s hs').1 (by have := (hs s hs').2; omega)
      exact ⟨d3 _ hx, hz.p, den_lt hz⟩
  · exact ⟨0, fun h => absurd h hb⟩
theorem rv_q' {x : Rat} (h : 0 ≤ x) : rv (qn x) (qd x) = x := by
  unfold rv; rw [val_qn h, val_qd, Rat.num_divInt_den]
theorem bawake_ct : Ct Tryz.prog 4 #[] (fun _ => True) (fun _ : Unit => .bool true) Tt (fun _ _ => True) := by
  refine Ct.start Tryz.func4 rfl rfl (slots_of rfl slots0) (fun D w0 => ?_)
  repeat (first | (with_reducible first | refine Pw.seq ?_ | refine Pw.region ?_ | refine Pw.nil ?_ | refine Pw.then_ ?_ | refine Pw.skip ?_ | refine Pw.block ?_ | refine Pw.exit ?_ | refine Pw.inX ?_ | refine Pw.inN ?_ | refine Pw.inR ?_ | refine Pw.thenX ?_ | refine Pw.thenR ?_ | refine Pw.ret ?_) | refine Pw.list (Pw.pure rfl rfl rfl ?_) | refine Pw.inY rfl ?_ | refine Pw.list (Pw.off rfl rfl ?_) | refine Pw.condT rfl ?_ | refine Pw.condF rfl ?_ | refine Pw.list (Pw.box rfl rfl rfl rfl (fun _ => ?_)) | refine Pw.list (Pw.alloc rfl rfl rfl rfl rfl (fun _ => ?_)) | refine Pw.list (Pw.build rfl rfl rfl rfl ?_) | refine Pw.list (Pw.ld rfl inferInstance rfl rfl rfl ?_) | refine Pw.list (Pw.sto rfl rfl inferInstance rfl rfl rfl rfl rfl inferInstance rfl ?_))
  refine Pw.list (Pw.call (qOf_ct (n := 1) (by omega) (by omega)) rfl rfl rfl (by kernel_rfl) rfl rfl (fun w h => trivial) ?_)
  intro z1 _
  repeat (first | (with_reducible first | refine Pw.seq ?_ | refine Pw.region ?_ | refine Pw.nil ?_ | refine Pw.then_ ?_ | refine Pw.skip ?_ | refine Pw.block ?_ | refine Pw.exit ?_ | refine Pw.inX ?_ | refine Pw.inN ?_ | refine Pw.inR ?_ | refine Pw.thenX ?_ | refine Pw.thenR ?_ | refine Pw.ret ?_) | refine Pw.list (Pw.pure rfl rfl rfl ?_) | refine Pw.inY rfl ?_ | refine Pw.list (Pw.off rfl rfl ?_) | refine Pw.condT rfl ?_ | refine Pw.condF rfl ?_ | refine Pw.list (Pw.box rfl rfl rfl rfl (fun _ => ?_)) | refine Pw.list (Pw.alloc rfl rfl rfl rfl rfl (fun _ => ?_)) | refine Pw.list (Pw.build rfl rfl rfl rfl ?_) | refine Pw.list (Pw.ld rfl inferInstance rfl rfl rfl ?_) | refine Pw.list (Pw.sto rfl rfl inferInstance rfl rfl rfl rfl rfl inferInstance rfl ?_))
  refine freeHead ?_
  repeat (first | (with_reducible first | refine Pw.seq ?_ | refine Pw.region ?_ | refine Pw.nil ?_ | refine Pw.then_ ?_ | refine Pw.skip ?_ | refine Pw.block ?_ | refine Pw.exit ?_ | refine Pw.inX ?_ | refine Pw.inN ?_ | refine Pw.inR ?_ | refine Pw.thenX ?_ | refine Pw.thenR ?_ | refine Pw.ret ?_) | refine Pw.list (Pw.pure rfl rfl rfl ?_) | refine Pw.inY rfl ?_ | refine Pw.list (Pw.off rfl rfl ?_) | refine Pw.condT rfl ?_ | refine Pw.condF rfl ?_ | refine Pw.list (Pw.box rfl rfl rfl rfl (fun _ => ?_)) | refine Pw.list (Pw.alloc rfl rfl rfl rfl rfl (fun _ => ?_)) | refine Pw.list (Pw.build rfl rfl rfl rfl ?_) | refine Pw.list (Pw.ld rfl inferInstance rfl rfl rfl ?_) | refine Pw.list (Pw.sto rfl rfl inferInstance rfl rfl rfl rfl rfl inferInstance rfl ?_))
  refine Pw.list (Pw.lit12 rfl rfl rfl rfl rfl rfl rfl rfl rfl (fun g2 => freeHead ?_))
  have hz : Sz 1 ((1 : Int) : Rat) := sz_int (by omega) (by show (1 : Int) < 4294967296; omega) (by omega)
  have hf := hz.formed (by omega)
  have hrq : rq ⟨qn ((1 : Int) : Rat), qd ((1 : Int) : Rat), z1⟩ = ((1 : Int) : Rat) := rv_q' hz.p
  have hw : ∀ s ∈ [(⟨qn ((1 : Int) : Rat), qd ((1 : Int) : Rat), z1⟩ : Rt)], RtW s := fun s hs => by rw [List.mem_singleton.1 hs]; exact ⟨qn_lm _, qd_lm _⟩
  have hln := hz.ln; have hld := hz.ld
  obtain ⟨D', hT⟩ := tq_few hw (fun s hs => by rw [List.mem_singleton.1 hs]; exact ⟨by show (qn _).length ≤ 6; omega, by show (qd _).length ≤ 4; omega⟩) 4 (by omega)
  have hbad : badT [(⟨qn ((1 : Int) : Rat), qd ((1 : Int) : Rat), z1⟩ : Rt)] = false := by unfold badT; rw [List.any_cons, List.any_nil]; dsimp only; rw [hf]; rfl
  refine Pw.list (Pw.call (pTurn_ct 4 [⟨qn ((1 : Int) : Rat), qd ((1 : Int) : Rat), z1⟩] (some ⟨g2, 0, none⟩, 1) hw (fun s hs => by rw [List.mem_singleton.1 hs]; exact ⟨by show (qn _).length < _; omega, by show (qd _).length < _; omega⟩) (by simp) hT) rfl rfl rfl (by kernel_rfl) rfl rfl (fun w h1 => rows_of_row (ex := []) (fact0 h1) (fun _ _ => rfl) (fun y hy => by
    rw [List.mem_singleton.1 hy]; exact (hv w h1 : QW ((1 : Int) : Rat) z1 w)) (by simp) (by simp [maxLen]) (by omega)) ?_)
  rintro ⟨P1, ⟨A1, c1⟩, e1⟩ hP
  unfold TurnP at hP
  rw [hbad, if_neg (by simp)] at hP
  obtain ⟨rfl, v, hlev, hvb, hP1⟩ := hP
  dsimp only at hP1 ⊢
  simp only [List.map_cons, List.map_nil, hrq] at hlev hP1
  have hfill : gn v ((1 : Int) : Rat) = ((4 : Int) : Rat) := by
    have := hlev.fill
    unfold gain at this
    simp only [List.map_cons, List.map_nil, sumR] at this
    grind
  obtain ⟨⟨a, b, y1⟩, rfl⟩ : ∃ p, P1 = [p] := by
    have := congrArg List.length hP1
    rw [List.length_map] at this
    match P1, this with
    | [p], _ => exact ⟨p, rfl⟩
  unfold outT at hP1
  simp only [List.map_cons, List.map_nil, hfill] at hP1
  obtain ⟨rfl, rfl⟩ : a = qn ((4 : Int) : Rat) ∧ b = qd ((4 : Int) : Rat) := by simpa using hP1
  repeat (first | (with_reducible first | refine Pw.seq ?_ | refine Pw.region ?_ | refine Pw.nil ?_ | refine Pw.then_ ?_ | refine Pw.skip ?_ | refine Pw.block ?_ | refine Pw.exit ?_ | refine Pw.inX ?_ | refine Pw.inN ?_ | refine Pw.inR ?_ | refine Pw.thenX ?_ | refine Pw.thenR ?_ | refine Pw.ret ?_) | refine Pw.list (Pw.pure rfl rfl rfl ?_) | refine Pw.inY rfl ?_ | refine Pw.list (Pw.off rfl rfl ?_) | refine Pw.condT rfl ?_ | refine Pw.condF rfl ?_ | refine Pw.list (Pw.box rfl rfl rfl rfl (fun _ => ?_)) | refine Pw.list (Pw.alloc rfl rfl rfl rfl rfl (fun _ => ?_)) | refine Pw.list (Pw.build rfl rfl rfl rfl ?_) | refine Pw.list (Pw.ld rfl inferInstance rfl rfl rfl ?_) | refine Pw.list (Pw.sto rfl rfl inferInstance rfl rfl rfl rfl rfl inferInstance rfl ?_))
  refine Pw.use (p := A1.isSome = true) (fun w h => (fact0 h : RS [⟨qn ((4 : Int) : Rat), qd ((4 : Int) : Rat), y1⟩] (A1, c1) w).has (i := 0) (Int.le_refl 0) (by show (0 : Int) < 1; omega)) (fun hA => ?_)
  obtain ⟨ad, rfl⟩ := Option.isSome_iff_exists.1 hA
  repeat (first | (with_reducible first | refine Pw.seq ?_ | refine Pw.region ?_ | refine Pw.nil ?_ | refine Pw.then_ ?_ | refine Pw.skip ?_ | refine Pw.block ?_ | refine Pw.exit ?_ | refine Pw.inX ?_ | refine Pw.inN ?_ | refine Pw.inR ?_ | refine Pw.thenX ?_ | refine Pw.thenR ?_ | refine Pw.ret ?_) | refine Pw.list (Pw.pure rfl rfl rfl ?_) | refine Pw.inY rfl ?_ | refine Pw.list (Pw.off rfl rfl ?_) | refine Pw.condT rfl ?_ | refine Pw.condF rfl ?_ | refine Pw.list (Pw.box rfl rfl rfl rfl (fun _ => ?_)) | refine Pw.list (Pw.alloc rfl rfl rfl rfl rfl (fun _ => ?_)) | refine Pw.list (Pw.build rfl rfl rfl rfl ?_) | refine Pw.list (Pw.ld rfl inferInstance rfl rfl rfl ?_) | refine Pw.list (Pw.sto rfl rfl inferInstance rfl rfl rfl rfl rfl inferInstance rfl ?_))
  have h4 : Sz 1 ((4 : Int) : Rat) := sz_int (by omega) (by show (4 : Int) < 4294967296; omega) (by omega)
  have hi0 : (0 : Int) ≤ 0 := Int.le_refl 0
  have hi1 : (0 : Int) < 1 := by omega
  refine Pw.drawnG mixed rfl rfl ?_
  refine Pw.takeP 0 (nb 15 1) rfl rfl rfl rfl (by kernel_rfl) np sf ?_
  refine Pw.takeP 1 (nb 15 3) rfl rfl rfl rfl (by kernel_rfl) np sf ?_
  refine Pw.takeP 2 (nb 15 7) rfl rfl rfl rfl (by kernel_rfl) np sf ?_
  refine Pw.takeP 3 (nb 15 15) rfl rfl rfl rfl (by kernel_rfl) np sf ?_
  refine Pw.takeP 4 (nb 15 31) rfl rfl rfl rfl (by kernel_rfl) np sf ?_
  refine Pw.takeP 5 (nb 15 63) rfl rfl rfl rfl (by kernel_rfl) np sf ?_
  refine Pw.takeP 6 (nb 15 127) rfl rfl rfl rfl (by kernel_rfl) np sf ?_
  refine Pw.takeP 7 (nb 15 255) rfl rfl rfl rfl (by kernel_rfl) np sf ?_
  refine Pw.takeP 8 (nb 15 511) rfl rfl rfl rfl (by kernel_rfl) np sf ?_
  refine Pw.takeIx 9 (nb 15 1023) rfl rfl rfl rfl rfl (by first | assumption | omega) (by first | assumption | omega) rfl rfl (by kernel_rfl) np sf ?_
  refine Pw.two 10 11 (nb 15 2047) (nb 15 3071) rfl rfl (by kernel_rfl) ?_ ?_
  · skip
    refine Pw.loadR ⟨qn ((4 : Int) : Rat), qd ((4 : Int) : Rat), y1⟩ rfl inferInstance rfl rfl (by kernel_rfl) rfl rfl ?_
    refine Pw.re (d := 25) (v' := qt ((4 : Int) : Rat) y1) rfl rfl ?_
    refine Pw.held sf ?_
    refine Pw.one 11 (nb 15 4095) rfl (by kernel_rfl) ?_
    refine Pw.call (fracN_ct (n := 4) (by omega) (by omega)) rfl rfl rfl (by kernel_rfl) rfl rfl (fun w h => trivial) ?_
    intro z2 _
    refine Pw.held sf ?_
    refine Pw.one 12 (nb 15 8191) rfl (by kernel_rfl) ?_
    refine Pw.call (qSame_ct h4 (by omega) y1 z2) rfl rfl rfl (by kernel_rfl) rfl rfl (fun w h => ⟨(hv w h : heldR ⟨qn ((4 : Int) : Rat), qd ((4 : Int) : Rat), y1⟩ w), (hv w h)⟩) ?_
    intro _ _
    refine Pw.held sf ?_
    refine Pw.takeP 13 (nb 15 16383) rfl rfl rfl rfl (by kernel_rfl) np sf ?_
    refine Pw.takeP 14 (nb 15 32767) rfl rfl rfl rfl (by kernel_rfl) np sf ?_
    refine Pw.done (by kernel_rfl) ?_
    repeat (first | (with_reducible first | refine Pw.seq ?_ | refine Pw.region ?_ | refine Pw.nil ?_ | refine Pw.then_ ?_ | refine Pw.skip ?_ | refine Pw.block ?_ | refine Pw.exit ?_ | refine Pw.inX ?_ | refine Pw.inN ?_ | refine Pw.inR ?_ | refine Pw.thenX ?_ | refine Pw.thenR ?_ | refine Pw.ret ?_) | refine Pw.list (Pw.pure rfl rfl rfl ?_) | refine Pw.inY rfl ?_ | refine Pw.list (Pw.off rfl rfl ?_) | refine Pw.condT rfl ?_ | refine Pw.condF rfl ?_ | refine Pw.list (Pw.box rfl rfl rfl rfl (fun _ => ?_)) | refine Pw.list (Pw.alloc rfl rfl rfl rfl rfl (fun _ => ?_)) | refine Pw.list (Pw.build rfl rfl rfl rfl ?_) | refine Pw.list (Pw.ld rfl inferInstance rfl rfl rfl ?_) | refine Pw.list (Pw.sto rfl rfl inferInstance rfl rfl rfl rfl rfl inferInstance rfl ?_))
    exact Pw.ret_ (x := ()) (.tmp rfl .nil) rfl trivial (fun w h => by trivial)
  · skip
    refine Pw.call (fracN_ct (n := 4) (by omega) (by omega)) rfl rfl rfl (by kernel_rfl) rfl rfl (fun w h => trivial) ?_
    intro z2 _
    refine Pw.held sf ?_
    refine Pw.one 10 (nb 15 4095) rfl (by kernel_rfl) ?_
    refine Pw.loadR ⟨qn ((4 : Int) : Rat), qd ((4 : Int) : Rat), y1⟩ rfl inferInstance rfl rfl (by kernel_rfl) rfl rfl ?_
    refine Pw.re (d := 25) (v' := qt ((4 : Int) : Rat) y1) rfl rfl ?_
    refine Pw.held sf ?_
    refine Pw.one 12 (nb 15 8191) rfl (by kernel_rfl) ?_
    refine Pw.call (qSame_ct h4 (by omega) y1 z2) rfl rfl rfl (by kernel_rfl) rfl rfl (fun w h => ⟨(hv w h : heldR ⟨qn ((4 : Int) : Rat), qd ((4 : Int) : Rat), y1⟩ w), (hv w h)⟩) ?_
    intro _ _
    refine Pw.held sf ?_
    refine Pw.takeP 13 (nb 15 16383) rfl rfl rfl rfl (by kernel_rfl) np sf ?_
    refine Pw.takeP 14 (nb 15 32767) rfl rfl rfl rfl (by kernel_rfl) np sf ?_
    refine Pw.done (by kernel_rfl) ?_
    repeat (first | (with_reducible first | refine Pw.seq ?_ | refine Pw.region ?_ | refine Pw.nil ?_ | refine Pw.then_ ?_ | refine Pw.skip ?_ | refine Pw.block ?_ | refine Pw.exit ?_ | refine Pw.inX ?_ | refine Pw.inN ?_ | refine Pw.inR ?_ | refine Pw.thenX ?_ | refine Pw.thenR ?_ | refine Pw.ret ?_) | refine Pw.list (Pw.pure rfl rfl rfl ?_) | refine Pw.inY rfl ?_ | refine Pw.list (Pw.off rfl rfl ?_) | refine Pw.condT rfl ?_ | refine Pw.condF rfl ?_ | refine Pw.list (Pw.box rfl rfl rfl rfl (fun _ => ?_)) | refine Pw.list (Pw.alloc rfl rfl rfl rfl rfl (fun _ => ?_)) | refine Pw.list (Pw.build rfl rfl rfl rfl ?_) | refine Pw.list (Pw.ld rfl inferInstance rfl rfl rfl ?_) | refine Pw.list (Pw.sto rfl rfl inferInstance rfl rfl rfl rfl rfl inferInstance rfl ?_))
    exact Pw.ret_ (x := ()) (.tmp rfl .nil) rfl trivial (fun w h => by trivial)
end Go.Proofs.Wk
/- A stake given anew: the reference's sums and quotients of fractions. -/
namespace Go.Proofs.Wk
open Go.RowKit
set_option maxRecDepth 100000
set_option maxHeartbeats 4000000
attribute [local irreducible] Pw OpG
set_option linter.unusedVariables false
set_option linter.unusedSimpArgs false
theorem q_over {x y : Rat} (h0 : 0 < y) : x / y = Rat.divInt (x.num * y.den) ((x.den : Int) * y.num) := by
  have hn := num_pos' h0
  rw [Rat.div_def, Rat.mul_def', ← Rat.divInt_ofNat, Int.natCast_mul, Rat.num_inv, Rat.den_inv, if_neg (by omega), Int.sign_eq_one_of_pos hn, Int.one_mul, show ((y.num.natAbs : Nat) : Int) = y.num by omega]
section
variable {x y : Rat} {m n : Nat} (hx : Sz m x) (hy : Sz n y) (u v : Z2)
include hx hy
theorem Plus_ct (h : m + n < 400) : Ct Tryz.prog 51 #[qt x u, qt y v] (fun W => QW x u W ∧ QW y v W) (fun z : Z2 => qt (x + y) z) Tt (fun z => QW (x + y) z) := by
  have p1 := num_pos hx.p; have p2 := num_pos hy.p; have d1 := den_pos x; have d2 := den_pos y
  have b1 := mul_lt_pw p1 hx.n hy.d (by omega)
  have b2 := mul_lt_pw p2 hy.n hx.d (by omega)
  have b3 := mul_lt_pw (show 0 ≤ (x.den : Int) by omega) hx.d hy.d (by omega)
  rw [Nat.add_comm n m] at b2
  have b4 := add_lt_pw b1 b2
  have q1 := Int.mul_nonneg p1 (show 0 ≤ (y.den : Int) by omega)
  have q2 := Int.mul_nonneg p2 (show 0 ≤ (x.den : Int) by omega)
  have q3 := Int.mul_pos d1 d2
  have h1 := hx.ln; have h2 := hx.ld; have h3 := hy.ln; have h4 := hy.ld
  have l1 := natL_len_le q1 b1; have l2 := natL_len_le q2 b2; have l3 := natL_len_le (by omega) b3; have l4 := natL_len_le (by omega) b4
  have m1 := fun z w => rmul_ct (qn x) (qd y) z w (qn_lm x) (qd_lm y) (by omega) (by omega)
  have m2 := fun z w => rmul_ct (qn y) (qd x) z w (qn_lm y) (qd_lm x) (by omega) (by omega)
  have m3 := fun z w => rmul_ct (qd x) (qd y) z w (qd_lm x) (qd_lm y) (by omega) (by omega)
  have ma := fun z w => radd_ct (natL (x.num * y.den)) (natL (y.num * x.den)) z w (natL_fm _).1 (natL_fm _).1 (by omega) (by omega)
  have hl := low_len (p := 0) q3 (by omega)
  have ml := fun z w => lowest_ct (natL (x.num * y.den + y.num * x.den)) (natL ((x.den : Int) * (y.den : Int))) z w (natL_fm _) (natL_fm _) hl.1 (by omega) hl.2
  rw [val_qn hx.p, val_qd] at m1
  rw [val_qn hy.p, val_qd] at m2
  rw [val_qd, val_qd] at m3
  rw [val_natL q1, val_natL q2] at ma
  have el : lowS (natL (x.num * y.den + y.num * x.den)) (natL ((x.den : Int) * (y.den : Int))) = (qn (x + y), qd (x + y)) := by
    rw [q_low (by omega) q3, show x + y = Rat.divInt (x.num * y.den + y.num * x.den) ((x.den : Int) * (y.den : Int)) by rw [Rat.add_def', ← Int.natCast_mul, Rat.divInt_ofNat]]
  rw [el] at ml
  refine Ct.start Tryz.func51 rfl rfl (slots_of rfl slots2) (fun D w0 => Pw.facts (G' := [QW x u, QW y v]) (fun w h => allCons (fact0 h).1 (allCons (fact0 h).2 allNil)) ?_)
  repeat (first | (with_reducible first | refine Pw.seq ?_ | refine Pw.region ?_ | refine Pw.nil ?_ | refine Pw.then_ ?_ | refine Pw.skip ?_ | refine Pw.block ?_ | refine Pw.exit ?_ | refine Pw.inX ?_ | refine Pw.inN ?_ | refine Pw.inR ?_ | refine Pw.thenX ?_ | refine Pw.thenR ?_ | refine Pw.ret ?_) | refine Pw.list (Pw.pure rfl rfl rfl ?_) | refine Pw.inY rfl ?_ | refine Pw.list (Pw.off rfl rfl ?_) | refine Pw.condT rfl ?_ | refine Pw.condF rfl ?_)
  refine Pw.list (Pw.box rfl rfl rfl rfl (fun g2 => freeHead ?_))
  refine Pw.list (Pw.box rfl rfl rfl rfl (fun g3 => freeHead ?_))
  repeat (first | (with_reducible first | refine Pw.seq ?_ | refine Pw.region ?_ | refine Pw.nil ?_ | refine Pw.then_ ?_ | refine Pw.skip ?_ | refine Pw.block ?_ | refine Pw.exit ?_ | refine Pw.inX ?_ | refine Pw.inN ?_ | refine Pw.inR ?_ | refine Pw.thenX ?_ | refine Pw.thenR ?_ | refine Pw.ret ?_) | refine Pw.list (Pw.pure rfl rfl rfl ?_) | refine Pw.inY rfl ?_ | refine Pw.list (Pw.off rfl rfl ?_) | refine Pw.condT rfl ?_ | refine Pw.condF rfl ?_ | refine Pw.list (Pw.box rfl rfl rfl rfl (fun _ => ?_)) | refine Pw.list (Pw.alloc rfl rfl rfl rfl rfl (fun _ => ?_)) | refine Pw.list (Pw.build rfl rfl rfl rfl ?_) | refine Pw.list (Pw.ld rfl inferInstance rfl rfl rfl ?_) | refine Pw.list (Pw.sto rfl rfl inferInstance rfl rfl rfl rfl rfl inferInstance rfl ?_))
  refine Pw.drawnG mixed rfl rfl ?_
  refine Pw.takeP 0 (nb 18 1) rfl rfl rfl rfl (by kernel_rfl) np sf ?_
  refine Pw.takeF 1 (nb 18 3) rfl rfl inferInstance rfl rfl rfl (by kernel_rfl) np sf ?_
  refine Pw.takeP 2 (nb 18 7) rfl rfl rfl rfl (by kernel_rfl) np sf ?_
  refine Pw.takeF 3 (nb 18 15) rfl rfl inferInstance rfl rfl rfl (by kernel_rfl) np sf ?_
  refine Pw.takeP 5 (nb 18 47) rfl rfl rfl rfl (by kernel_rfl) np sf ?_
  refine Pw.takeF 6 (nb 18 111) rfl rfl inferInstance rfl rfl rfl (by kernel_rfl) np sf ?_
  refine Pw.takeP 7 (nb 18 239) rfl rfl rfl rfl (by kernel_rfl) np sf ?_
  refine Pw.takeF 8 (nb 18 495) rfl rfl inferInstance rfl rfl rfl (by kernel_rfl) np sf ?_
  refine Pw.takeP 11 (nb 18 2543) rfl rfl rfl rfl (by kernel_rfl) np sf ?_
  refine Pw.takeF 12 (nb 18 6639) rfl rfl inferInstance rfl rfl rfl (by kernel_rfl) np sf ?_
  refine Pw.takeP 13 (nb 18 14831) rfl rfl rfl rfl (by kernel_rfl) np sf ?_
  refine Pw.takeF 14 (nb 18 31215) rfl rfl inferInstance rfl rfl rfl (by kernel_rfl) np sf ?_
  refine Pw.one 4 (nb 18 31231) rfl (by kernel_rfl) ?_
  refine Pw.call (m1 u.1 v.2) rfl rfl rfl (by kernel_rfl) rfl rfl (fun w h => ⟨(hv w h : QW x u w).1, (hv w h : QW y v w).2⟩) ?_
  intro z1 _
  refine Pw.held sf ?_
  refine Pw.one 9 (nb 18 31743) rfl (by kernel_rfl) ?_
  refine Pw.call (m2 v.1 u.2) rfl rfl rfl (by kernel_rfl) rfl rfl (fun w h => ⟨(hv w h : QW y v w).1, (hv w h : QW x u w).2⟩) ?_
  intro z2 _
  refine Pw.held sf ?_
  refine Pw.one 10 (nb 18 32767) rfl (by kernel_rfl) ?_
  refine Pw.call (ma z1 z2) rfl rfl rfl (by kernel_rfl) rfl rfl (fun w h => ⟨(hv w h), (hv w h)⟩) ?_
  intro z3 _
  refine Pw.held sf ?_
  refine Pw.one 15 (nb 18 65535) rfl (by kernel_rfl) ?_
  refine Pw.call (m3 u.2 v.2) rfl rfl rfl (by kernel_rfl) rfl rfl (fun w h => ⟨(hv w h : QW x u w).2, (hv w h : QW y v w).2⟩) ?_
  intro z4 _
  refine Pw.held sf ?_
  refine Pw.one 16 (nb 18 131071) rfl (by kernel_rfl) ?_
  refine Pw.call (ml z3 z4) rfl rfl rfl (by kernel_rfl) rfl rfl (fun w h => ⟨(hv w h), (hv w h)⟩) ?_
  intro z5 _
  refine Pw.held sf ?_
  refine Pw.one 17 (nb 18 262143) rfl (by kernel_rfl) ?_
  refine Pw.sto rfl rfl inferInstance rfl rfl rfl rfl rfl inferInstance rfl ?_
  refine Pw.held sf ?_
  refine Pw.done (by kernel_rfl) ?_
  repeat (first | (with_reducible first | refine Pw.seq ?_ | refine Pw.region ?_ | refine Pw.nil ?_ | refine Pw.then_ ?_ | refine Pw.skip ?_ | refine Pw.block ?_ | refine Pw.exit ?_ | refine Pw.inX ?_ | refine Pw.inN ?_ | refine Pw.inR ?_ | refine Pw.thenX ?_ | refine Pw.thenR ?_ | refine Pw.ret ?_) | refine Pw.list (Pw.pure rfl rfl rfl ?_) | refine Pw.inY rfl ?_ | refine Pw.list (Pw.off rfl rfl ?_) | refine Pw.condT rfl ?_ | refine Pw.condF rfl ?_)
  exact Pw.ret_ (x := z5) (.cell rfl (fun w hs => hs.own _ (.head _)) rfl .nil) rfl trivial (fun w h => fact0 h)
theorem Over_ct (h : m + n < 400) (h0 : 0 < y) : Ct Tryz.prog 52 #[qt x u, qt y v] (fun W => QW x u W ∧ QW y v W) (fun z : Z2 => qt (x / y) z) Tt (fun z => QW (x / y) z) := by
  have p1 := num_pos hx.p; have p2 := num_pos' h0; have d1 := den_pos x; have d2 := den_pos y
  have b1 := mul_lt_pw p1 hx.n hy.d (by omega)
  have b3 := mul_lt_pw (show 0 ≤ (x.den : Int) by omega) hx.d hy.n (by omega)
  have q1 := Int.mul_nonneg p1 (show 0 ≤ (y.den : Int) by omega)
  have q3 := Int.mul_pos d1 p2
  have h1 := hx.ln; have h2 := hx.ld; have h3 := hy.ln; have h4 := hy.ld
  have l1 := natL_len_le q1 b1; have l3 := natL_len_le (by omega) b3
  have m1 := fun z w => rmul_ct (qn x) (qd y) z w (qn_lm x) (qd_lm y) (by omega) (by omega)
  have m3 := fun z w => rmul_ct (qd x) (qn y) z w (qd_lm x) (qn_lm y) (by omega) (by omega)
  have hl := low_len (p := 0) q3 (by omega)
  have ml := fun z w => lowest_ct (natL (x.num * y.den)) (natL ((x.den : Int) * y.num)) z w (natL_fm _) (natL_fm _) hl.1 (by omega) hl.2
  rw [val_qn hx.p, val_qd] at m1
  rw [val_qd, val_qn hy.p] at m3
  have el : lowS (natL (x.num * y.den)) (natL ((x.den : Int) * y.num)) = (qn (x / y), qd (x / y)) := by
    rw [q_low q1 q3, q_over h0]
  rw [el] at ml
  refine Ct.start Tryz.func52 rfl rfl (slots_of rfl slots2) (fun D w0 => Pw.facts (G' := [QW x u, QW y v]) (fun w h => allCons (fact0 h).1 (allCons (fact0 h).2 allNil)) ?_)
  repeat (first | (with_reducible first | refine Pw.seq ?_ | refine Pw.region ?_ | refine Pw.nil ?_ | refine Pw.then_ ?_ | refine Pw.skip ?_ | refine Pw.block ?_ | refine Pw.exit ?_ | refine Pw.inX ?_ | refine Pw.inN ?_ | refine Pw.inR ?_ | refine Pw.thenX ?_ | refine Pw.thenR ?_ | refine Pw.ret ?_) | refine Pw.list (Pw.pure rfl rfl rfl ?_) | refine Pw.inY rfl ?_ | refine Pw.list (Pw.off rfl rfl ?_) | refine Pw.condT rfl ?_ | refine Pw.condF rfl ?_)
  refine Pw.list (Pw.box rfl rfl rfl rfl (fun g2 => freeHead ?_))
  refine Pw.list (Pw.box rfl rfl rfl rfl (fun g3 => freeHead ?_))
  repeat (first | (with_reducible first | refine Pw.seq ?_ | refine Pw.region ?_ | refine Pw.nil ?_ | refine Pw.then_ ?_ | refine Pw.skip ?_ | refine Pw.block ?_ | refine Pw.exit ?_ | refine Pw.inX ?_ | refine Pw.inN ?_ | refine Pw.inR ?_ | refine Pw.thenX ?_ | refine Pw.thenR ?_ | refine Pw.ret ?_) | refine Pw.list (Pw.pure rfl rfl rfl ?_) | refine Pw.inY rfl ?_ | refine Pw.list (Pw.off rfl rfl ?_) | refine Pw.condT rfl ?_ | refine Pw.condF rfl ?_ | refine Pw.list (Pw.box rfl rfl rfl rfl (fun _ => ?_)) | refine Pw.list (Pw.alloc rfl rfl rfl rfl rfl (fun _ => ?_)) | refine Pw.list (Pw.build rfl rfl rfl rfl ?_) | refine Pw.list (Pw.ld rfl inferInstance rfl rfl rfl ?_) | refine Pw.list (Pw.sto rfl rfl inferInstance rfl rfl rfl rfl rfl inferInstance rfl ?_))
  refine Pw.drawnG mixed rfl rfl ?_
  refine Pw.takeP 0 (nb 12 1) rfl rfl rfl rfl (by kernel_rfl) np sf ?_
  refine Pw.takeF 1 (nb 12 3) rfl rfl inferInstance rfl rfl rfl (by kernel_rfl) np sf ?_
  refine Pw.takeP 2 (nb 12 7) rfl rfl rfl rfl (by kernel_rfl) np sf ?_
  refine Pw.takeF 3 (nb 12 15) rfl rfl inferInstance rfl rfl rfl (by kernel_rfl) np sf ?_
  refine Pw.takeP 5 (nb 12 47) rfl rfl rfl rfl (by kernel_rfl) np sf ?_
  refine Pw.takeF 6 (nb 12 111) rfl rfl inferInstance rfl rfl rfl (by kernel_rfl) np sf ?_
  refine Pw.takeP 7 (nb 12 239) rfl rfl rfl rfl (by kernel_rfl) np sf ?_
  refine Pw.takeF 8 (nb 12 495) rfl rfl inferInstance rfl rfl rfl (by kernel_rfl) np sf ?_
  refine Pw.one 4 (nb 12 511) rfl (by kernel_rfl) ?_
  refine Pw.call (m1 u.1 v.2) rfl rfl rfl (by kernel_rfl) rfl rfl (fun w h => ⟨(hv w h : QW x u w).1, (hv w h : QW y v w).2⟩) ?_
  intro z1 _
  refine Pw.held sf ?_
  refine Pw.one 9 (nb 12 1023) rfl (by kernel_rfl) ?_
  refine Pw.call (m3 u.2 v.1) rfl rfl rfl (by kernel_rfl) rfl rfl (fun w h => ⟨(hv w h : QW x u w).2, (hv w h : QW y v w).1⟩) ?_
  intro z2 _
  refine Pw.held sf ?_
  refine Pw.one 10 (nb 12 2047) rfl (by kernel_rfl) ?_
  refine Pw.call (ml z1 z2) rfl rfl rfl (by kernel_rfl) rfl rfl (fun w h => ⟨(hv w h), (hv w h)⟩) ?_
  intro z5 _
  refine Pw.held sf ?_
  refine Pw.one 11 (nb 12 4095) rfl (by kernel_rfl) ?_
  refine Pw.sto rfl rfl inferInstance rfl rfl rfl rfl rfl inferInstance rfl ?_
  refine Pw.held sf ?_
  refine Pw.done (by kernel_rfl) ?_
  repeat (first | (with_reducible first | refine Pw.seq ?_ | refine Pw.region ?_ | refine Pw.nil ?_ | refine Pw.then_ ?_ | refine Pw.skip ?_ | refine Pw.block ?_ | refine Pw.exit ?_ | refine Pw.inX ?_ | refine Pw.inN ?_ | refine Pw.inR ?_ | refine Pw.thenX ?_ | refine Pw.thenR ?_ | refine Pw.ret ?_) | refine Pw.list (Pw.pure rfl rfl rfl ?_) | refine Pw.inY rfl ?_ | refine Pw.list (Pw.off rfl rfl ?_) | refine Pw.condT rfl ?_ | refine Pw.condF rfl ?_)
  exact Pw.ret_ (x := z5) (.cell rfl (fun w hs => hs.own _ (.head _)) rfl .nil) rfl trivial (fun w h => fact0 h)
theorem rqPlus_ct (h : m + n < 400) : Ct Tryz.prog 24 #[qt x u, qt y v] (fun W => QW x u W ∧ QW y v W) (fun z : Z2 => qt (x + y) z) Tt (fun z => QW (x + y) z) := by
  refine Ct.start Tryz.func24 rfl rfl (slots_of rfl slots2) (fun D w0 => Pw.facts (G' := [QW x u, QW y v]) (fun w h => allCons (fact0 h).1 (allCons (fact0 h).2 allNil)) ?_)
  repeat (first | (with_reducible first | refine Pw.seq ?_ | refine Pw.region ?_ | refine Pw.nil ?_ | refine Pw.then_ ?_ | refine Pw.skip ?_ | refine Pw.block ?_ | refine Pw.exit ?_ | refine Pw.inX ?_ | refine Pw.inN ?_ | refine Pw.inR ?_ | refine Pw.thenX ?_ | refine Pw.thenR ?_ | refine Pw.ret ?_) | refine Pw.list (Pw.pure rfl rfl rfl ?_) | refine Pw.inY rfl ?_ | refine Pw.list (Pw.off rfl rfl ?_) | refine Pw.condT rfl ?_ | refine Pw.condF rfl ?_)
  refine Pw.list (Pw.box rfl rfl rfl rfl (fun g2 => freeHead ?_))
  refine Pw.list (Pw.box rfl rfl rfl rfl (fun g3 => freeHead ?_))
  repeat (first | (with_reducible first | refine Pw.seq ?_ | refine Pw.region ?_ | refine Pw.nil ?_ | refine Pw.then_ ?_ | refine Pw.skip ?_ | refine Pw.block ?_ | refine Pw.exit ?_ | refine Pw.inX ?_ | refine Pw.inN ?_ | refine Pw.inR ?_ | refine Pw.thenX ?_ | refine Pw.thenR ?_ | refine Pw.ret ?_) | refine Pw.list (Pw.pure rfl rfl rfl ?_) | refine Pw.inY rfl ?_ | refine Pw.list (Pw.off rfl rfl ?_) | refine Pw.condT rfl ?_ | refine Pw.condF rfl ?_ | refine Pw.list (Pw.box rfl rfl rfl rfl (fun _ => ?_)) | refine Pw.list (Pw.alloc rfl rfl rfl rfl rfl (fun _ => ?_)) | refine Pw.list (Pw.build rfl rfl rfl rfl ?_) | refine Pw.list (Pw.ld rfl inferInstance rfl rfl rfl ?_) | refine Pw.list (Pw.sto rfl rfl inferInstance rfl rfl rfl rfl rfl inferInstance rfl ?_))
  refine Pw.list (Pw.call (Plus_ct hx hy u v h) rfl rfl rfl (by kernel_rfl) rfl rfl (fun w h => ⟨(hv w h), (hv w h)⟩) ?_)
  intro z _
  repeat (first | (with_reducible first | refine Pw.seq ?_ | refine Pw.region ?_ | refine Pw.nil ?_ | refine Pw.then_ ?_ | refine Pw.skip ?_ | refine Pw.block ?_ | refine Pw.exit ?_ | refine Pw.inX ?_ | refine Pw.inN ?_ | refine Pw.inR ?_ | refine Pw.thenX ?_ | refine Pw.thenR ?_ | refine Pw.ret ?_) | refine Pw.list (Pw.pure rfl rfl rfl ?_) | refine Pw.inY rfl ?_ | refine Pw.list (Pw.off rfl rfl ?_) | refine Pw.condT rfl ?_ | refine Pw.condF rfl ?_ | refine Pw.list (Pw.box rfl rfl rfl rfl (fun _ => ?_)) | refine Pw.list (Pw.alloc rfl rfl rfl rfl rfl (fun _ => ?_)) | refine Pw.list (Pw.build rfl rfl rfl rfl ?_) | refine Pw.list (Pw.ld rfl inferInstance rfl rfl rfl ?_) | refine Pw.list (Pw.sto rfl rfl inferInstance rfl rfl rfl rfl rfl inferInstance rfl ?_))
  exact Pw.ret_ (x := z) (.cell rfl (fun w hs => hs.own _ (.head _)) rfl .nil) rfl trivial (fun w h => fact0 h)
theorem rqOver_ct (h : m + n < 400) (h0 : 0 < y) : Ct Tryz.prog 25 #[qt x u, qt y v] (fun W => QW x u W ∧ QW y v W) (fun z : Z2 => qt (x / y) z) Tt (fun z => QW (x / y) z) := by
  refine Ct.start Tryz.func25 rfl rfl (slots_of rfl slots2) (fun D w0 => Pw.facts (G' := [QW x u, QW y v]) (fun w h => allCons (fact0 h).1 (allCons (fact0 h).2 allNil)) ?_)
  repeat (first | (with_reducible first | refine Pw.seq ?_ | refine Pw.region ?_ | refine Pw.nil ?_ | refine Pw.then_ ?_ | refine Pw.skip ?_ | refine Pw.block ?_ | refine Pw.exit ?_ | refine Pw.inX ?_ | refine Pw.inN ?_ | refine Pw.inR ?_ | refine Pw.thenX ?_ | refine Pw.thenR ?_ | refine Pw.ret ?_) | refine Pw.list (Pw.pure rfl rfl rfl ?_) | refine Pw.inY rfl ?_ | refine Pw.list (Pw.off rfl rfl ?_) | refine Pw.condT rfl ?_ | refine Pw.condF rfl ?_)
  refine Pw.list (Pw.box rfl rfl rfl rfl (fun g2 => freeHead ?_))
  refine Pw.list (Pw.box rfl rfl rfl rfl (fun g3 => freeHead ?_))
  repeat (first | (with_reducible first | refine Pw.seq ?_ | refine Pw.region ?_ | refine Pw.nil ?_ | refine Pw.then_ ?_ | refine Pw.skip ?_ | refine Pw.block ?_ | refine Pw.exit ?_ | refine Pw.inX ?_ | refine Pw.inN ?_ | refine Pw.inR ?_ | refine Pw.thenX ?_ | refine Pw.thenR ?_ | refine Pw.ret ?_) | refine Pw.list (Pw.pure rfl rfl rfl ?_) | refine Pw.inY rfl ?_ | refine Pw.list (Pw.off rfl rfl ?_) | refine Pw.condT rfl ?_ | refine Pw.condF rfl ?_ | refine Pw.list (Pw.box rfl rfl rfl rfl (fun _ => ?_)) | refine Pw.list (Pw.alloc rfl rfl rfl rfl rfl (fun _ => ?_)) | refine Pw.list (Pw.build rfl rfl rfl rfl ?_) | refine Pw.list (Pw.ld rfl inferInstance rfl rfl rfl ?_) | refine Pw.list (Pw.sto rfl rfl inferInstance rfl rfl rfl rfl rfl inferInstance rfl ?_))
  refine Pw.list (Pw.call (Over_ct hx hy u v h h0) rfl rfl rfl (by kernel_rfl) rfl rfl (fun w h => ⟨(hv w h), (hv w h)⟩) ?_)
  intro z _
  repeat (first | (with_reducible first | refine Pw.seq ?_ | refine Pw.region ?_ | refine Pw.nil ?_ | refine Pw.then_ ?_ | refine Pw.skip ?_ | refine Pw.block ?_ | refine Pw.exit ?_ | refine Pw.inX ?_ | refine Pw.inN ?_ | refine Pw.inR ?_ | refine Pw.thenX ?_ | refine Pw.thenR ?_ | refine Pw.ret ?_) | refine Pw.list (Pw.pure rfl rfl rfl ?_) | refine Pw.inY rfl ?_ | refine Pw.list (Pw.off rfl rfl ?_) | refine Pw.condT rfl ?_ | refine Pw.condF rfl ?_ | refine Pw.list (Pw.box rfl rfl rfl rfl (fun _ => ?_)) | refine Pw.list (Pw.alloc rfl rfl rfl rfl rfl (fun _ => ?_)) | refine Pw.list (Pw.build rfl rfl rfl rfl ?_) | refine Pw.list (Pw.ld rfl inferInstance rfl rfl rfl ?_) | refine Pw.list (Pw.sto rfl rfl inferInstance rfl rfl rfl rfl rfl inferInstance rfl ?_))
  exact Pw.ret_ (x := z) (.cell rfl (fun w hs => hs.own _ (.head _)) rfl .nil) rfl trivial (fun w h => fact0 h)
end
theorem rwholeN_ct {n : Int} (h : 0 ≤ n) (h' : n ≤ 18446744073709551615) : Ct Tryz.prog 22 #[.int .u64 n] (fun _ => True) (fun z : Z2 => qt (n : Rat) z) Tt (fun z => QW (n : Rat) z) := by
  refine Ct.start Tryz.func22 rfl rfl (slots_of rfl slots1) (fun D w0 => ?_)
  repeat (first | (with_reducible first | refine Pw.seq ?_ | refine Pw.region ?_ | refine Pw.nil ?_ | refine Pw.then_ ?_ | refine Pw.skip ?_ | refine Pw.block ?_ | refine Pw.exit ?_ | refine Pw.inX ?_ | refine Pw.inN ?_ | refine Pw.inR ?_ | refine Pw.thenX ?_ | refine Pw.thenR ?_ | refine Pw.ret ?_) | refine Pw.list (Pw.pure rfl rfl rfl ?_) | refine Pw.inY rfl ?_ | refine Pw.list (Pw.off rfl rfl ?_) | refine Pw.condT rfl ?_ | refine Pw.condF rfl ?_ | refine Pw.list (Pw.box rfl rfl rfl rfl (fun _ => ?_)) | refine Pw.list (Pw.alloc rfl rfl rfl rfl rfl (fun _ => ?_)) | refine Pw.list (Pw.build rfl rfl rfl rfl ?_) | refine Pw.list (Pw.ld rfl inferInstance rfl rfl rfl ?_) | refine Pw.list (Pw.sto rfl rfl inferInstance rfl rfl rfl rfl rfl inferInstance rfl ?_))
  refine Pw.list (Pw.call (fracN_ct h h') rfl rfl rfl (by kernel_rfl) rfl rfl (fun w h => trivial) ?_)
  intro z _
  repeat (first | (with_reducible first | refine Pw.seq ?_ | refine Pw.region ?_ | refine Pw.nil ?_ | refine Pw.then_ ?_ | refine Pw.skip ?_ | refine Pw.block ?_ | refine Pw.exit ?_ | refine Pw.inX ?_ | refine Pw.inN ?_ | refine Pw.inR ?_ | refine Pw.thenX ?_ | refine Pw.thenR ?_ | refine Pw.ret ?_) | refine Pw.list (Pw.pure rfl rfl rfl ?_) | refine Pw.inY rfl ?_ | refine Pw.list (Pw.off rfl rfl ?_) | refine Pw.condT rfl ?_ | refine Pw.condF rfl ?_ | refine Pw.list (Pw.box rfl rfl rfl rfl (fun _ => ?_)) | refine Pw.list (Pw.alloc rfl rfl rfl rfl rfl (fun _ => ?_)) | refine Pw.list (Pw.build rfl rfl rfl rfl ?_) | refine Pw.list (Pw.ld rfl inferInstance rfl rfl rfl ?_) | refine Pw.list (Pw.sto rfl rfl inferInstance rfl rfl rfl rfl rfl inferInstance rfl ?_))
  exact Pw.ret_ (x := z) (.cell rfl (fun w hs => hs.own _ (.head _)) rfl .nil) rfl trivial (fun w h => fact0 h)
end Go.Proofs.Wk
/- A stake given anew: the document's Turn walked. -/
namespace Go.Proofs.Wk
open Go.RowKit
set_option maxRecDepth 100000
set_option maxHeartbeats 8000000
attribute [local irreducible] Pw OpG
set_option linter.unusedVariables false
set_option linter.unusedSimpArgs false
def RTurnP (l : List Rt) (v : Rat) (r : List Rt × (Option Addr × Nat) × Int) : Prop :=
  if badT l = true then r.1 = [] ∧ r.2.2 = 1 else r.2.2 = 0 ∧ r.1.map (fun t => (t.a, t.b)) = outT (l.map rq) v
/-- Those of the first k that are at most as high as s. -/
def bel (ws : List Rat) (s : Rat) (k : Nat) : List Rat := below (ws.take k) s
theorem bel_in {ws : List Rat} {s t : Rat} {k : Nat} (h : ws[k]? = some t) (hc : t ≤ s) : bel ws s (k + 1) = bel ws s k ++ [t] := by
  unfold bel below; rw [take_snoc h, List.filter_append, List.filter_cons_of_pos (by simpa using hc)]; rfl
theorem bel_out {ws : List Rat} {s t : Rat} {k : Nat} (h : ws[k]? = some t) (hc : ¬ t ≤ s) : bel ws s (k + 1) = bel ws s k := by
  unfold bel below; rw [take_snoc h, List.filter_append, List.filter_cons_of_neg (by simpa using hc)]; simp
theorem bel_len {ws : List Rat} {s : Rat} {k : Nat} : (bel ws s k).length ≤ k := by
  unfold bel below
  exact Nat.le_trans (List.length_filter_le _ _) (by rw [List.length_take]; omega)
theorem bel_mem {ws : List Rat} {s t : Rat} {k : Nat} (h : t ∈ bel ws s k) : t ∈ ws := List.mem_of_mem_take (List.mem_filter.1 h).1
theorem sumR_one (l : List Rat) (t : Rat) : sumR (l ++ [t]) = sumR l + t := by rw [sumR_append]; simp only [sumR]; grind
def BS (ws : List Rat) (st : Int) (s : Rat) (k : Nat) : Rat := (st : Rat) + sumR (bel ws s k)
theorem BS_in {ws : List Rat} {st : Int} {s t : Rat} {k : Nat} (h : ws[k]? = some t) (hc : t ≤ s) : BS ws st s (k + 1) = BS ws st s k + t := by
  unfold BS; rw [bel_in h hc, sumR_one]; grind
theorem BS_out {ws : List Rat} {st : Int} {s t : Rat} {k : Nat} (h : ws[k]? = some t) (hc : ¬ t ≤ s) : BS ws st s (k + 1) = BS ws st s k := by
  unfold BS; rw [bel_out h hc]
theorem cmpQ_le {x y : Rat} : cmpQ x y ≤ 0 ↔ x ≤ y := by
  have := @cmpQ_pos' x y
  constructor
  · intro h; exact Rat.not_lt.1 (fun e => by have := this.2 e; omega)
  · intro h
    have : ¬ cmpQ x y > 0 := fun e => Rat.not_lt.2 h (this.1 e)
    omega
theorem cmpQ_neg' {x y : Rat} : cmpQ x y < 0 ↔ x < y := by
  unfold cmpQ
  by_cases h : x < y
  · rw [if_pos h]; simp [h]
  · rw [if_neg h]; by_cases h2 : x = y
    · rw [if_pos h2]; simp [h]
    · rw [if_neg h2]; simp [h]
theorem cmpQ_ge {x y : Rat} : cmpQ x y ≥ 0 ↔ y ≤ x := by
  have := @cmpQ_neg' x y
  constructor
  · intro h; exact Rat.not_lt.1 (fun e => by have := this.2 e; omega)
  · intro h
    have : ¬ cmpQ x y < 0 := fun e => Rat.not_lt.2 h (this.1 e)
    omega
/-- The level's fraction as it lies. -/
def LvC (b : Option Rat) (la lb : List Int) : Prop := match b with
  | none => la = [] ∧ lb = []
  | some x => la = qn x ∧ lb = qd x
theorem rTurn_ct {D d b : Nat} (st : Int) (l : List Rt) (x : Option Addr × Nat) (hw : ∀ s ∈ l, RtW s) (hb : ∀ s ∈ l, s.a.length < 1048576 ∧ s.b.length < 1048576) (hl : l.length ≤ 1000) (hT : badT l = false → TQ D d b (l.map rq) st) (u : Rat) (hu : badT l = false → Lev (l.map rq) st u ∧ (Mult (840 * D) u ∧ 0 ≤ u ∧ u < ((pw (b + 1) : Int) : Rat))) :
    Ct Tryz.prog 8 #[.int .u64 st, rsV l x] (RS l x) (fun r : List Rt × (Option Addr × Nat) × Int => .tuple #[rsV r.1 r.2.1, .int .i64 r.2.2]) (RTurnP l u) (fun r => RS r.1 r.2.1) := by
  obtain ⟨A, c⟩ := x
  refine Ct.start Tryz.func8 rfl rfl (slots_of rfl slots2) (fun D0 w0 => ?_)
  repeat (first | (with_reducible first | refine Pw.seq ?_ | refine Pw.region ?_ | refine Pw.nil ?_ | refine Pw.then_ ?_ | refine Pw.skip ?_ | refine Pw.block ?_ | refine Pw.exit ?_ | refine Pw.inX ?_ | refine Pw.inN ?_ | refine Pw.inR ?_ | refine Pw.thenX ?_ | refine Pw.thenR ?_ | refine Pw.ret ?_) | refine Pw.list (Pw.pure rfl rfl rfl ?_) | refine Pw.inY rfl ?_ | refine Pw.list (Pw.off rfl rfl ?_) | refine Pw.condT rfl ?_ | refine Pw.condF rfl ?_ | refine Pw.list (Pw.box rfl rfl rfl rfl (fun _ => ?_)) | refine Pw.list (Pw.alloc rfl rfl rfl rfl rfl (fun _ => ?_)) | refine Pw.list (Pw.build rfl rfl rfl rfl ?_) | refine Pw.list (Pw.ld rfl inferInstance rfl rfl rfl ?_) | refine Pw.list (Pw.sto rfl rfl inferInstance rfl rfl rfl rfl rfl inferInstance rfl ?_))
  refine Pw.split 19 rfl (fun c1 => ?_) (fun c1 => ?_)
  · have c1' : l.length = 0 := by omega
    have e : badT l = true := by unfold badT; simp [c1']
    repeat (first | (with_reducible first | refine Pw.seq ?_ | refine Pw.region ?_ | refine Pw.nil ?_ | refine Pw.then_ ?_ | refine Pw.skip ?_ | refine Pw.block ?_ | refine Pw.exit ?_ | refine Pw.inX ?_ | refine Pw.inN ?_ | refine Pw.inR ?_ | refine Pw.thenX ?_ | refine Pw.thenR ?_ | refine Pw.ret ?_) | refine Pw.list (Pw.pure rfl rfl rfl ?_) | refine Pw.inY rfl ?_ | refine Pw.list (Pw.off rfl rfl ?_) | refine Pw.condT rfl ?_ | refine Pw.condF rfl ?_ | refine Pw.list (Pw.box rfl rfl rfl rfl (fun _ => ?_)) | refine Pw.list (Pw.alloc rfl rfl rfl rfl rfl (fun _ => ?_)) | refine Pw.list (Pw.build rfl rfl rfl rfl ?_) | refine Pw.list (Pw.ld rfl inferInstance rfl rfl rfl ?_) | refine Pw.list (Pw.sto rfl rfl inferInstance rfl rfl rfl rfl rfl inferInstance rfl ?_))
    exact Pw.ret_ (x := ([], (none, 0), 1)) (.tmp rfl (.tmp rfl .nil)) rfl (by unfold RTurnP; rw [if_pos e]; exact ⟨rfl, rfl⟩) (fun w h => Rows.nil _ _ _ _ _)
  repeat (first | (with_reducible first | refine Pw.seq ?_ | refine Pw.region ?_ | refine Pw.nil ?_ | refine Pw.then_ ?_ | refine Pw.skip ?_ | refine Pw.block ?_ | refine Pw.exit ?_ | refine Pw.inX ?_ | refine Pw.inN ?_ | refine Pw.inR ?_ | refine Pw.thenX ?_ | refine Pw.thenR ?_ | refine Pw.ret ?_) | refine Pw.list (Pw.pure rfl rfl rfl ?_) | refine Pw.inY rfl ?_ | refine Pw.list (Pw.off rfl rfl ?_) | refine Pw.condT rfl ?_ | refine Pw.condF rfl ?_ | refine Pw.list (Pw.box rfl rfl rfl rfl (fun _ => ?_)) | refine Pw.list (Pw.alloc rfl rfl rfl rfl rfl (fun _ => ?_)) | refine Pw.list (Pw.build rfl rfl rfl rfl ?_) | refine Pw.list (Pw.ld rfl inferInstance rfl rfl rfl ?_) | refine Pw.list (Pw.sto rfl rfl inferInstance rfl rfl rfl rfl rfl inferInstance rfl ?_))
  refine Pw.condD rfl (fun c2 => ?_) (fun c2 => ?_)
  · have c2' : 8 < l.length := by omega
    have e : badT l = true := by unfold badT; simp [c2']
    repeat (first | (with_reducible first | refine Pw.seq ?_ | refine Pw.region ?_ | refine Pw.nil ?_ | refine Pw.then_ ?_ | refine Pw.skip ?_ | refine Pw.block ?_ | refine Pw.exit ?_ | refine Pw.inX ?_ | refine Pw.inN ?_ | refine Pw.inR ?_ | refine Pw.thenX ?_ | refine Pw.thenR ?_ | refine Pw.ret ?_) | refine Pw.list (Pw.pure rfl rfl rfl ?_) | refine Pw.inY rfl ?_ | refine Pw.list (Pw.off rfl rfl ?_) | refine Pw.condT rfl ?_ | refine Pw.condF rfl ?_ | refine Pw.list (Pw.box rfl rfl rfl rfl (fun _ => ?_)) | refine Pw.list (Pw.alloc rfl rfl rfl rfl rfl (fun _ => ?_)) | refine Pw.list (Pw.build rfl rfl rfl rfl ?_) | refine Pw.list (Pw.ld rfl inferInstance rfl rfl rfl ?_) | refine Pw.list (Pw.sto rfl rfl inferInstance rfl rfl rfl rfl rfl inferInstance rfl ?_))
    exact Pw.ret_ (x := ([], (none, 0), 1)) (.tmp rfl (.tmp rfl .nil)) rfl (by unfold RTurnP; rw [if_pos e]; exact ⟨rfl, rfl⟩) (fun w h => Rows.nil _ _ _ _ _)
  repeat (first | (with_reducible first | refine Pw.seq ?_ | refine Pw.region ?_ | refine Pw.nil ?_ | refine Pw.then_ ?_ | refine Pw.skip ?_ | refine Pw.block ?_ | refine Pw.exit ?_ | refine Pw.inX ?_ | refine Pw.inN ?_ | refine Pw.inR ?_ | refine Pw.thenX ?_ | refine Pw.thenR ?_ | refine Pw.ret ?_) | refine Pw.list (Pw.pure rfl rfl rfl ?_) | refine Pw.inY rfl ?_ | refine Pw.list (Pw.off rfl rfl ?_) | refine Pw.condT rfl ?_ | refine Pw.condF rfl ?_ | refine Pw.list (Pw.box rfl rfl rfl rfl (fun _ => ?_)) | refine Pw.list (Pw.alloc rfl rfl rfl rfl rfl (fun _ => ?_)) | refine Pw.list (Pw.build rfl rfl rfl rfl ?_) | refine Pw.list (Pw.ld rfl inferInstance rfl rfl rfl ?_) | refine Pw.list (Pw.sto rfl rfl inferInstance rfl rfl rfl rfl rfl inferInstance rfl ?_))
  refine Pw.loopJ (σ := Nat) (fun i => i ≤ l.length ∧ ∀ j, j < i → ∀ y, l[j]? = some y → (!formedR y.a y.b) = false) (fun i => ⟨[(0, .int .u64 st), (1, .slice A l.length c), (25, .int .i64 l.length), (26, .int .i64 i)], [], [RS l (A, c)]⟩) (fun i => l.length - i) 0 ⟨Nat.zero_le _, fun j hj => absurd hj (Nat.not_lt_zero j)⟩ (Pw.enter ⟨rfl, rfl, rfl, rfl, trivial⟩ (fun w h => h)) ?_
  rintro i ⟨hi, hj⟩
  dsimp only at hi hj ⊢
  repeat (first | (with_reducible first | refine Pw.seq ?_ | refine Pw.region ?_ | refine Pw.nil ?_ | refine Pw.then_ ?_ | refine Pw.skip ?_ | refine Pw.block ?_ | refine Pw.exit ?_ | refine Pw.inX ?_ | refine Pw.inN ?_ | refine Pw.inR ?_ | refine Pw.thenX ?_ | refine Pw.thenR ?_ | refine Pw.ret ?_) | refine Pw.list (Pw.pure rfl rfl rfl ?_) | refine Pw.inY rfl ?_ | refine Pw.list (Pw.off rfl rfl ?_) | refine Pw.condT rfl ?_ | refine Pw.condF rfl ?_ | refine Pw.list (Pw.box rfl rfl rfl rfl (fun _ => ?_)) | refine Pw.list (Pw.alloc rfl rfl rfl rfl rfl (fun _ => ?_)) | refine Pw.list (Pw.build rfl rfl rfl rfl ?_) | refine Pw.list (Pw.ld rfl inferInstance rfl rfl rfl ?_) | refine Pw.list (Pw.sto rfl rfl inferInstance rfl rfl rfl rfl rfl inferInstance rfl ?_))
  refine Pw.condD rfl (fun c3 => ?_) (fun c3 => ?_)
  · obtain ⟨s, hsi, hsm⟩ := get_at (show i < l.length by omega)
    repeat (first | (with_reducible first | refine Pw.seq ?_ | refine Pw.region ?_ | refine Pw.nil ?_ | refine Pw.then_ ?_ | refine Pw.skip ?_ | refine Pw.block ?_ | refine Pw.exit ?_ | refine Pw.inX ?_ | refine Pw.inN ?_ | refine Pw.inR ?_ | refine Pw.thenX ?_ | refine Pw.thenR ?_ | refine Pw.ret ?_) | refine Pw.list (Pw.pure rfl rfl rfl ?_) | refine Pw.inY rfl ?_ | refine Pw.list (Pw.off rfl rfl ?_) | refine Pw.condT rfl ?_ | refine Pw.condF rfl ?_ | refine Pw.list (Pw.box rfl rfl rfl rfl (fun _ => ?_)) | refine Pw.list (Pw.alloc rfl rfl rfl rfl rfl (fun _ => ?_)) | refine Pw.list (Pw.build rfl rfl rfl rfl ?_) | refine Pw.list (Pw.ld rfl inferInstance rfl rfl rfl ?_) | refine Pw.list (Pw.sto rfl rfl inferInstance rfl rfl rfl rfl rfl inferInstance rfl ?_))
    refine Pw.list (Pw.index rfl rfl rfl rfl (Int.natCast_nonneg i) c3 (fun w h => (hv w h : RS l (A, c) w).has (Int.natCast_nonneg i) c3) rfl rfl ?_)
    rintro bd rfl
    refine Pw.list (Pw.loadR s rfl inferInstance rfl (by rw [Int.toNat_natCast]; exact hsi) (by kernel_rfl) rfl rfl ?_)
    refine Pw.re (d := 32) (v' := rt s.a s.b s.z) rfl rfl ?_
    repeat (first | (with_reducible first | refine Pw.seq ?_ | refine Pw.region ?_ | refine Pw.nil ?_ | refine Pw.then_ ?_ | refine Pw.skip ?_ | refine Pw.block ?_ | refine Pw.exit ?_ | refine Pw.inX ?_ | refine Pw.inN ?_ | refine Pw.inR ?_ | refine Pw.thenX ?_ | refine Pw.thenR ?_ | refine Pw.ret ?_) | refine Pw.list (Pw.pure rfl rfl rfl ?_) | refine Pw.inY rfl ?_ | refine Pw.list (Pw.off rfl rfl ?_) | refine Pw.condT rfl ?_ | refine Pw.condF rfl ?_ | refine Pw.list (Pw.box rfl rfl rfl rfl (fun _ => ?_)) | refine Pw.list (Pw.alloc rfl rfl rfl rfl rfl (fun _ => ?_)) | refine Pw.list (Pw.build rfl rfl rfl rfl ?_) | refine Pw.list (Pw.ld rfl inferInstance rfl rfl rfl ?_) | refine Pw.list (Pw.sto rfl rfl inferInstance rfl rfl rfl rfl rfl inferInstance rfl ?_))
    refine Pw.list (Pw.call (FormedRatio_ct s.a s.b s.z (hw s hsm).a (hw s hsm).b (hb s hsm).1 (hb s hsm).2) rfl rfl rfl (by kernel_rfl) rfl rfl (fun w h => (hv w h : heldR s w)) ?_)
    intro _ _
    cases hf : formedR s.a s.b
    · have e : badT l = true := by
        have : l.any (fun s => !formedR s.a s.b) = true := List.any_eq_true.2 ⟨s, hsm, by rw [hf]; rfl⟩
        unfold badT; rw [this]; simp
      repeat (first | (with_reducible first | refine Pw.seq ?_ | refine Pw.region ?_ | refine Pw.nil ?_ | refine Pw.then_ ?_ | refine Pw.skip ?_ | refine Pw.block ?_ | refine Pw.exit ?_ | refine Pw.inX ?_ | refine Pw.inN ?_ | refine Pw.inR ?_ | refine Pw.thenX ?_ | refine Pw.thenR ?_ | refine Pw.ret ?_) | refine Pw.list (Pw.pure rfl rfl rfl ?_) | refine Pw.inY rfl ?_ | refine Pw.list (Pw.off rfl rfl ?_) | refine Pw.condT rfl ?_ | refine Pw.condF rfl ?_ | refine Pw.list (Pw.box rfl rfl rfl rfl (fun _ => ?_)) | refine Pw.list (Pw.alloc rfl rfl rfl rfl rfl (fun _ => ?_)) | refine Pw.list (Pw.build rfl rfl rfl rfl ?_) | refine Pw.list (Pw.ld rfl inferInstance rfl rfl rfl ?_) | refine Pw.list (Pw.sto rfl rfl inferInstance rfl rfl rfl rfl rfl inferInstance rfl ?_))
      exact Pw.ret_ (x := ([], (none, 0), 1)) (.tmp rfl (.tmp rfl .nil)) rfl (by unfold RTurnP; rw [if_pos e]; exact ⟨rfl, rfl⟩) (fun w h => Rows.nil _ _ _ _ _)
    · repeat (first | (with_reducible first | refine Pw.seq ?_ | refine Pw.region ?_ | refine Pw.nil ?_ | refine Pw.then_ ?_ | refine Pw.skip ?_ | refine Pw.block ?_ | refine Pw.exit ?_ | refine Pw.inX ?_ | refine Pw.inN ?_ | refine Pw.inR ?_ | refine Pw.thenX ?_ | refine Pw.thenR ?_ | refine Pw.ret ?_) | refine Pw.list (Pw.pure rfl rfl rfl ?_) | refine Pw.inY rfl ?_ | refine Pw.list (Pw.off rfl rfl ?_) | refine Pw.condT rfl ?_ | refine Pw.condF rfl ?_ | refine Pw.list (Pw.box rfl rfl rfl rfl (fun _ => ?_)) | refine Pw.list (Pw.alloc rfl rfl rfl rfl rfl (fun _ => ?_)) | refine Pw.list (Pw.build rfl rfl rfl rfl ?_) | refine Pw.list (Pw.ld rfl inferInstance rfl rfl rfl ?_) | refine Pw.list (Pw.sto rfl rfl inferInstance rfl rfl rfl rfl rfl inferInstance rfl ?_))
      refine Pw.re (d := 26) (v' := .int .i64 ((i + 1 : Nat) : Int)) rfl (congrArg (Value.int .i64) (i64s (n := 100000) (by omega) (by omega))) ?_
      exact Pw.again (i + 1) ⟨by omega, below_snoc (p := fun y : Rt => !formedR y.a y.b) hj hsi (by rw [hf]; rfl)⟩ (by show l.length - (i + 1) < l.length - i; omega) ⟨rfl, rfl, rfl, rfl, trivial⟩ rfl (fun w h => allCons (hv w h) allNil)
  obtain rfl : i = l.length := by omega
  have hF : l.any (fun s => !formedR s.a s.b) = false := by
    rw [List.any_eq_false]
    intro y hy
    obtain ⟨j, hjj⟩ := List.getElem?_of_mem hy
    rw [hj j (List.getElem?_eq_some_iff.1 hjj).1 y hjj]; simp
  have hbad : badT l = false := by unfold badT; rw [hF, decide_eq_false (by omega), decide_eq_false (by omega)]; rfl
  obtain ⟨hlev, hub⟩ := hu hbad
  have hTq := hT hbad
  have hcap := hTq.cap
  have hst := hTq.st
  have huz := hTq.sz hub
  have hrq : ∀ s ∈ l, RtQ (b + d) s := fun s hs => by
    have hf : formedR s.a s.b = true := by have := List.any_eq_false.1 hF s hs; simpa using this
    obtain ⟨h1, h2, _⟩ := formed_q (hw s hs).a (hw s hs).b hf
    exact ⟨h1, h2, hTq.s (List.mem_map_of_mem hs)⟩
  have hl8 : 1 ≤ l.length ∧ l.length ≤ 8 := by omega
  have hwl : (l.map rq).length = l.length := List.length_map ..
  have hbs := fun s k (hk : k ≤ l.length) => hTq.sub (l := bel (l.map rq) s k) (fun t ht => bel_mem ht) (by have := @bel_len (l.map rq) s k; omega)
  have hbz : ∀ s k, k ≤ l.length → Sz (b + 1 + d) (BS (l.map rq) st s k) := fun s k hk => mult_sz (hbs s k hk).1 (hbs s k hk).2.1 hTq.D0 hTq.dl (hbs s k hk).2.2
  have hlv : ∀ s ∈ l.map rq, Mult (840 * D) (lvl (l.map rq) st s) ∧ 0 ≤ lvl (l.map rq) st s ∧ lvl (l.map rq) st s < ((pw (b + 1) : Int) : Rat) := fun s hs => by
    have h1 := hbs s l.length (Nat.le_refl _)
    have e : bel (l.map rq) s l.length = below (l.map rq) s := by unfold bel; rw [List.take_of_length_le (by omega)]
    rw [e] at h1
    have h2 := below_pos hs
    have h3 : (below (l.map rq) s).length ≤ 8 := Nat.le_trans (List.length_filter_le _ _) (by omega)
    exact hTq.lv h1 h2 h3
  clear hj c3
  repeat (first | (with_reducible first | refine Pw.seq ?_ | refine Pw.region ?_ | refine Pw.nil ?_ | refine Pw.then_ ?_ | refine Pw.skip ?_ | refine Pw.block ?_ | refine Pw.exit ?_ | refine Pw.inX ?_ | refine Pw.inN ?_ | refine Pw.inR ?_ | refine Pw.thenX ?_ | refine Pw.thenR ?_ | refine Pw.ret ?_) | refine Pw.list (Pw.pure rfl rfl rfl ?_) | refine Pw.inY rfl ?_ | refine Pw.list (Pw.off rfl rfl ?_) | refine Pw.condT rfl ?_ | refine Pw.condF rfl ?_ | refine Pw.list (Pw.box rfl rfl rfl rfl (fun _ => ?_)) | refine Pw.list (Pw.alloc rfl rfl rfl rfl rfl (fun _ => ?_)) | refine Pw.list (Pw.build rfl rfl rfl rfl ?_) | refine Pw.list (Pw.ld rfl inferInstance rfl rfl rfl ?_) | refine Pw.list (Pw.sto rfl rfl inferInstance rfl rfl rfl rfl rfl inferInstance rfl ?_))
  rename_i g7
  refine Pw.facts (G' := [R2 [] [] z0, RS l (A, c)]) (fun w h => allCons (R2.nil w) (allCons (hv w h) allNil)) ?_
  refine Pw.loopJ (σ := Nat × Option Rat × List Int × List Int × Z2) (fun t => t.1 ≤ l.length ∧ Rlv (l.map rq) st t.1 t.2.1 ∧ LvC t.2.1 t.2.2.1 t.2.2.2.1) (fun t => ⟨[(0, .int .u64 st), (1, .slice A l.length c), (7, .pointer (some ⟨g7, 0, none⟩)), (38, .int .i64 l.length), (39, .int .i64 t.1)], [⟨g7, row [sl t.2.2.1 t.2.2.2.2.1, sl t.2.2.2.1 t.2.2.2.2.2] 40⟩], [R2 t.2.2.1 t.2.2.2.1 t.2.2.2.2, RS l (A, c)]⟩) (fun t => l.length - t.1) (0, none, [], [], z0) ⟨Nat.zero_le _, rlv_0 _ _, rfl, rfl⟩ (Pw.enter ⟨rfl, rfl, rfl, rfl, rfl, trivial⟩ (fun w h => h)) ?_
  rintro ⟨i, lo, la, lb, zl⟩ ⟨hi, hR, hC⟩
  dsimp only at hi hR hC ⊢
  repeat (first | (with_reducible first | refine Pw.seq ?_ | refine Pw.region ?_ | refine Pw.nil ?_ | refine Pw.then_ ?_ | refine Pw.skip ?_ | refine Pw.block ?_ | refine Pw.exit ?_ | refine Pw.inX ?_ | refine Pw.inN ?_ | refine Pw.inR ?_ | refine Pw.thenX ?_ | refine Pw.thenR ?_ | refine Pw.ret ?_) | refine Pw.list (Pw.pure rfl rfl rfl ?_) | refine Pw.inY rfl ?_ | refine Pw.list (Pw.off rfl rfl ?_) | refine Pw.condT rfl ?_ | refine Pw.condF rfl ?_ | refine Pw.list (Pw.box rfl rfl rfl rfl (fun _ => ?_)) | refine Pw.list (Pw.alloc rfl rfl rfl rfl rfl (fun _ => ?_)) | refine Pw.list (Pw.build rfl rfl rfl rfl ?_) | refine Pw.list (Pw.ld rfl inferInstance rfl rfl rfl ?_) | refine Pw.list (Pw.sto rfl rfl inferInstance rfl rfl rfl rfl rfl inferInstance rfl ?_))
  refine Pw.condD rfl (fun c3 => ?_) (fun c3 => ?_)
  · obtain ⟨s, hsi, hsm⟩ := get_at (show i < l.length by omega)
    have hsr : (l.map rq)[i]? = some (rq s) := by rw [List.getElem?_map, hsi]; rfl
    obtain ⟨y, ys, rfl, hy, hyq⟩ := rtq_ex (hrq s hsm)
    rw [hyq] at hsr
    have hyl := hlv y (List.mem_of_getElem? hsr)
    have hi0 : 0 ≤ (i : Int) := Int.natCast_nonneg i
    refine Pw.use (p := A.isSome = true) (fun w h => (hv w h : RS l (A, c) w).has hi0 c3) (fun hA => ?_)
    obtain ⟨ad, rfl⟩ := Option.isSome_iff_exists.1 hA
    refine Pw.more (φ := QW y ys) (fun w h => ((hv w h : RS l (some ad, c) w).at hsi).2.1) ?_
    repeat (first | (with_reducible first | refine Pw.seq ?_ | refine Pw.region ?_ | refine Pw.nil ?_ | refine Pw.then_ ?_ | refine Pw.skip ?_ | refine Pw.block ?_ | refine Pw.exit ?_ | refine Pw.inX ?_ | refine Pw.inN ?_ | refine Pw.inR ?_ | refine Pw.thenX ?_ | refine Pw.thenR ?_ | refine Pw.ret ?_) | refine Pw.list (Pw.pure rfl rfl rfl ?_) | refine Pw.inY rfl ?_ | refine Pw.list (Pw.off rfl rfl ?_) | refine Pw.condT rfl ?_ | refine Pw.condF rfl ?_ | refine Pw.list (Pw.box rfl rfl rfl rfl (fun _ => ?_)) | refine Pw.list (Pw.alloc rfl rfl rfl rfl rfl (fun _ => ?_)) | refine Pw.list (Pw.build rfl rfl rfl rfl ?_) | refine Pw.list (Pw.ld rfl inferInstance rfl rfl rfl ?_) | refine Pw.list (Pw.sto rfl rfl inferInstance rfl rfl rfl rfl rfl inferInstance rfl ?_))
    refine Pw.list (Pw.call (rwholeN_ct hst.1 hst.2) rfl rfl rfl (by kernel_rfl) rfl rfl (fun w h => trivial) ?_)
    intro z9 _
    repeat (first | (with_reducible first | refine Pw.seq ?_ | refine Pw.region ?_ | refine Pw.nil ?_ | refine Pw.then_ ?_ | refine Pw.skip ?_ | refine Pw.block ?_ | refine Pw.exit ?_ | refine Pw.inX ?_ | refine Pw.inN ?_ | refine Pw.inR ?_ | refine Pw.thenX ?_ | refine Pw.thenR ?_ | refine Pw.ret ?_) | refine Pw.list (Pw.pure rfl rfl rfl ?_) | refine Pw.inY rfl ?_ | refine Pw.list (Pw.off rfl rfl ?_) | refine Pw.condT rfl ?_ | refine Pw.condF rfl ?_ | refine Pw.list (Pw.box rfl rfl rfl rfl (fun _ => ?_)) | refine Pw.list (Pw.alloc rfl rfl rfl rfl rfl (fun _ => ?_)) | refine Pw.list (Pw.build rfl rfl rfl rfl ?_) | refine Pw.list (Pw.ld rfl inferInstance rfl rfl rfl ?_) | refine Pw.list (Pw.sto rfl rfl inferInstance rfl rfl rfl rfl rfl inferInstance rfl ?_))
    rename_i g9
    have eB0 : BS (l.map rq) st y 0 = ((st : Int) : Rat) := by unfold BS bel below; simp only [List.take_zero, List.filter_nil, sumR]; grind
    refine Pw.facts (G' := [QW (BS (l.map rq) st y 0) z9, QW y ys, R2 la lb zl, RS l (some ad, c)]) (fun w h => allCons (by rw [eB0]; exact (hv w h : QW ((st : Int) : Rat) z9 w)) (allCons (hv w h) (allCons (hv w h) (allCons (hv w h) allNil)))) ?_
    refine Pw.eqL (L' := [⟨g9, row [sl (qn (BS (l.map rq) st y 0)) z9.1, sl (qd (BS (l.map rq) st y 0)) z9.2] 40⟩, ⟨g7, row [sl la zl.1, sl lb zl.2] 40⟩]) (by rw [eB0]) ?_
    refine Pw.loopJ (σ := Nat × Z2) (fun t => t.1 ≤ l.length) (fun t => ⟨[(0, .int .u64 st), (1, .slice (some ad) l.length c), (7, .pointer (some ⟨g7, 0, none⟩)), (8, .int .i64 i), (9, .pointer (some ⟨g9, 0, none⟩)), (10, .int .u64 (((bel (l.map rq) y t.1).length : Nat) : Int)), (38, .int .i64 l.length), (39, .int .i64 i), (45, .int .i64 l.length), (46, .int .i64 t.1)], [⟨g9, row [sl (qn (BS (l.map rq) st y t.1)) t.2.1, sl (qd (BS (l.map rq) st y t.1)) t.2.2] 40⟩, ⟨g7, row [sl la zl.1, sl lb zl.2] 40⟩], [QW (BS (l.map rq) st y t.1) t.2, QW y ys, R2 la lb zl, RS l (some ad, c)]⟩) (fun t => l.length - t.1) (0, z9) (Nat.zero_le _) (Pw.enter ⟨rfl, rfl, rfl, rfl, rfl, rfl, rfl, rfl, rfl, rfl, trivial⟩ (fun w h => h)) ?_
    rintro ⟨k, z9⟩ hk
    dsimp only at hk ⊢
    repeat (first | (with_reducible first | refine Pw.seq ?_ | refine Pw.region ?_ | refine Pw.nil ?_ | refine Pw.then_ ?_ | refine Pw.skip ?_ | refine Pw.block ?_ | refine Pw.exit ?_ | refine Pw.inX ?_ | refine Pw.inN ?_ | refine Pw.inR ?_ | refine Pw.thenX ?_ | refine Pw.thenR ?_ | refine Pw.ret ?_) | refine Pw.list (Pw.pure rfl rfl rfl ?_) | refine Pw.inY rfl ?_ | refine Pw.list (Pw.off rfl rfl ?_) | refine Pw.condT rfl ?_ | refine Pw.condF rfl ?_ | refine Pw.list (Pw.box rfl rfl rfl rfl (fun _ => ?_)) | refine Pw.list (Pw.alloc rfl rfl rfl rfl rfl (fun _ => ?_)) | refine Pw.list (Pw.build rfl rfl rfl rfl ?_) | refine Pw.list (Pw.ld rfl inferInstance rfl rfl rfl ?_) | refine Pw.list (Pw.sto rfl rfl inferInstance rfl rfl rfl rfl rfl inferInstance rfl ?_))
    refine Pw.condD rfl (fun c4 => ?_) (fun c4 => ?_)
    · obtain ⟨t, htk, htm⟩ := get_at (show k < l.length by omega)
      have htr : (l.map rq)[k]? = some (rq t) := by rw [List.getElem?_map, htk]; rfl
      obtain ⟨p, ps, rfl, hp, hpq⟩ := rtq_ex (hrq t htm)
      rw [hpq] at htr
      have hk0 : 0 ≤ (k : Int) := Int.natCast_nonneg k
      have hbk := @bel_len (l.map rq) y k
      refine Pw.more (φ := QW p ps) (fun w h => ((hv w h : RS l (some ad, c) w).at htk).2.1) ?_
      repeat (first | (with_reducible first | refine Pw.seq ?_ | refine Pw.region ?_ | refine Pw.nil ?_ | refine Pw.then_ ?_ | refine Pw.skip ?_ | refine Pw.block ?_ | refine Pw.exit ?_ | refine Pw.inX ?_ | refine Pw.inN ?_ | refine Pw.inR ?_ | refine Pw.thenX ?_ | refine Pw.thenR ?_ | refine Pw.ret ?_) | refine Pw.list (Pw.pure rfl rfl rfl ?_) | refine Pw.inY rfl ?_ | refine Pw.list (Pw.off rfl rfl ?_) | refine Pw.condT rfl ?_ | refine Pw.condF rfl ?_ | refine Pw.list (Pw.box rfl rfl rfl rfl (fun _ => ?_)) | refine Pw.list (Pw.alloc rfl rfl rfl rfl rfl (fun _ => ?_)) | refine Pw.list (Pw.build rfl rfl rfl rfl ?_) | refine Pw.list (Pw.ld rfl inferInstance rfl rfl rfl ?_) | refine Pw.list (Pw.sto rfl rfl inferInstance rfl rfl rfl rfl rfl inferInstance rfl ?_))
      refine Pw.drawnG mixed rfl rfl ?_
      refine Pw.takeP 0 (nb 10 1) rfl rfl rfl rfl (by kernel_rfl) np sf ?_
      refine Pw.takeP 1 (nb 10 3) rfl rfl rfl rfl (by kernel_rfl) np sf ?_
      refine Pw.takeIx 2 (nb 10 7) rfl rfl rfl rfl rfl (by first | assumption | omega) (by first | assumption | omega) rfl rfl (by kernel_rfl) np sf ?_
      refine Pw.takeLA ⟨qn p,qd p,ps⟩ 3 (nb 10 15) rfl rfl inferInstance rfl (by first | assumption | (rw [Int.toNat_natCast]; assumption)) (by kernel_rfl) rfl rfl (by kernel_rfl) np sf ?_
      refine Pw.takeP 4 (nb 10 31) rfl rfl rfl rfl (by kernel_rfl) np sf ?_
      refine Pw.takeP 5 (nb 10 63) rfl rfl rfl rfl (by kernel_rfl) np sf ?_
      refine Pw.takeIx 6 (nb 10 127) rfl rfl rfl rfl rfl (by first | assumption | omega) (by first | assumption | omega) rfl rfl (by kernel_rfl) np sf ?_
      refine Pw.takeLA ⟨qn y,qd y,ys⟩ 7 (nb 10 255) rfl rfl inferInstance rfl (by first | assumption | (rw [Int.toNat_natCast]; assumption)) (by kernel_rfl) rfl rfl (by kernel_rfl) np sf ?_
      refine Pw.one 8 (nb 10 511) rfl (by kernel_rfl) ?_
      -- call Op.call { callee := Callee.value (Operand.func 23), args := #[Operand.tmp 52, Operand.tmp 56], argTypes := #[40, 40] }
      refine Pw.call (rqCmp_ct hp hy ps ys (by omega)) rfl rfl rfl (by kernel_rfl) rfl rfl (fun w h => ⟨(hv w h), (hv w h)⟩) ?_
      intro _ _
      refine Pw.held sf ?_
      refine Pw.takeP 9 (nb 10 1023) rfl rfl rfl rfl (by kernel_rfl) np sf ?_
      refine Pw.done (by kernel_rfl) ?_
      refine Pw.then_ (Pw.condD rfl (fun c5 => ?_) (fun c5 => ?_))
      · have hpy := cmpQ_le.1 c5
        have eB := BS_in (st := st) htr hpy
        have eL : (bel (l.map rq) y (k + 1)).length = (bel (l.map rq) y k).length + 1 := by rw [bel_in htr hpy, List.length_append]; rfl
        repeat (first | (with_reducible first | refine Pw.seq ?_ | refine Pw.region ?_ | refine Pw.nil ?_ | refine Pw.then_ ?_ | refine Pw.skip ?_ | refine Pw.block ?_ | refine Pw.exit ?_ | refine Pw.inX ?_ | refine Pw.inN ?_ | refine Pw.inR ?_ | refine Pw.thenX ?_ | refine Pw.thenR ?_ | refine Pw.ret ?_) | refine Pw.list (Pw.pure rfl rfl rfl ?_) | refine Pw.inY rfl ?_ | refine Pw.list (Pw.off rfl rfl ?_) | refine Pw.condT rfl ?_ | refine Pw.condF rfl ?_ | refine Pw.list (Pw.box rfl rfl rfl rfl (fun _ => ?_)) | refine Pw.list (Pw.alloc rfl rfl rfl rfl rfl (fun _ => ?_)) | refine Pw.list (Pw.build rfl rfl rfl rfl ?_) | refine Pw.list (Pw.ld rfl inferInstance rfl rfl rfl ?_) | refine Pw.list (Pw.sto rfl rfl inferInstance rfl rfl rfl rfl rfl inferInstance rfl ?_))
        refine Pw.drawnG mixed rfl rfl ?_
        refine Pw.takeP 1 (nb 7 2) rfl rfl rfl rfl (by kernel_rfl) np sf ?_
        refine Pw.takeP 2 (nb 7 6) rfl rfl rfl rfl (by kernel_rfl) np sf ?_
        refine Pw.takeIx 3 (nb 7 14) rfl rfl rfl rfl rfl (by first | assumption | omega) (by first | assumption | omega) rfl rfl (by kernel_rfl) np sf ?_
        refine Pw.two 0 4 (nb 7 15) (nb 7 30) rfl rfl (by kernel_rfl) ?_ ?_
        · skip
          refine Pw.ld rfl inferInstance rfl rfl rfl ?_
          refine Pw.held sf ?_
          refine Pw.one 4 (nb 7 31) rfl (by kernel_rfl) ?_
          refine Pw.loadR ⟨qn p, qd p, ps⟩ rfl inferInstance rfl (by rw [Int.toNat_natCast]; exact htk) (by kernel_rfl) rfl rfl ?_
          refine Pw.re (d := 63) (v' := qt p ps) rfl rfl ?_
          refine Pw.held sf ?_
          refine Pw.one 5 (nb 7 63) rfl (by kernel_rfl) ?_
          refine Pw.call (rqPlus_ct (hbz y k hk) hp z9 ps (by omega)) rfl rfl rfl (by kernel_rfl) rfl rfl (fun w h => ⟨(hv w h), (hv w h)⟩) ?_
          intro z' _
          rw [← eB]
          refine Pw.held sf ?_
          refine Pw.one 6 (nb 7 127) rfl (by kernel_rfl) ?_
          refine Pw.sto rfl rfl inferInstance rfl rfl rfl rfl rfl inferInstance rfl ?_
          refine Pw.held sf ?_
          refine Pw.done (by kernel_rfl) ?_
          repeat (first | (with_reducible first | refine Pw.seq ?_ | refine Pw.region ?_ | refine Pw.nil ?_ | refine Pw.then_ ?_ | refine Pw.skip ?_ | refine Pw.block ?_ | refine Pw.exit ?_ | refine Pw.inX ?_ | refine Pw.inN ?_ | refine Pw.inR ?_ | refine Pw.thenX ?_ | refine Pw.thenR ?_ | refine Pw.ret ?_) | refine Pw.list (Pw.pure rfl rfl rfl ?_) | refine Pw.inY rfl ?_ | refine Pw.list (Pw.off rfl rfl ?_) | refine Pw.condT rfl ?_ | refine Pw.condF rfl ?_ | refine Pw.list (Pw.box rfl rfl rfl rfl (fun _ => ?_)) | refine Pw.list (Pw.alloc rfl rfl rfl rfl rfl (fun _ => ?_)) | refine Pw.list (Pw.build rfl rfl rfl rfl ?_) | refine Pw.list (Pw.ld rfl inferInstance rfl rfl rfl ?_) | refine Pw.list (Pw.sto rfl rfl inferInstance rfl rfl rfl rfl rfl inferInstance rfl ?_))
          refine Pw.re (d := 10) (v' := .int .u64 (((bel (l.map rq) y (k + 1)).length : Nat) : Int)) rfl (congrArg (Value.int .u64) (by rw [eL, wu (by omega) (by omega)]; omega)) ?_
          refine Pw.re (d := 46) (v' := .int .i64 ((k + 1 : Nat) : Int)) rfl (congrArg (Value.int .i64) (i64s (n := 100000) (by omega) (by omega))) ?_
          exact Pw.again (k + 1, z') (by show k + 1 ≤ l.length; omega) (by show l.length - (k + 1) < l.length - k; omega) ⟨rfl, rfl, rfl, rfl, rfl, rfl, rfl, rfl, rfl, rfl, trivial⟩ rfl (fun w h => allCons (hv w h) (allCons (hv w h) (allCons (hv w h) (allCons (hv w h) allNil))))
        · skip
          refine Pw.loadR ⟨qn p, qd p, ps⟩ rfl inferInstance rfl (by rw [Int.toNat_natCast]; exact htk) (by kernel_rfl) rfl rfl ?_
          refine Pw.re (d := 63) (v' := qt p ps) rfl rfl ?_
          refine Pw.held sf ?_
          refine Pw.one 0 (nb 7 31) rfl (by kernel_rfl) ?_
          refine Pw.ld rfl inferInstance rfl rfl rfl ?_
          refine Pw.held sf ?_
          refine Pw.one 5 (nb 7 63) rfl (by kernel_rfl) ?_
          refine Pw.call (rqPlus_ct (hbz y k hk) hp z9 ps (by omega)) rfl rfl rfl (by kernel_rfl) rfl rfl (fun w h => ⟨(hv w h), (hv w h)⟩) ?_
          intro z' _
          rw [← eB]
          refine Pw.held sf ?_
          refine Pw.one 6 (nb 7 127) rfl (by kernel_rfl) ?_
          refine Pw.sto rfl rfl inferInstance rfl rfl rfl rfl rfl inferInstance rfl ?_
          refine Pw.held sf ?_
          refine Pw.done (by kernel_rfl) ?_
          repeat (first | (with_reducible first | refine Pw.seq ?_ | refine Pw.region ?_ | refine Pw.nil ?_ | refine Pw.then_ ?_ | refine Pw.skip ?_ | refine Pw.block ?_ | refine Pw.exit ?_ | refine Pw.inX ?_ | refine Pw.inN ?_ | refine Pw.inR ?_ | refine Pw.thenX ?_ | refine Pw.thenR ?_ | refine Pw.ret ?_) | refine Pw.list (Pw.pure rfl rfl rfl ?_) | refine Pw.inY rfl ?_ | refine Pw.list (Pw.off rfl rfl ?_) | refine Pw.condT rfl ?_ | refine Pw.condF rfl ?_ | refine Pw.list (Pw.box rfl rfl rfl rfl (fun _ => ?_)) | refine Pw.list (Pw.alloc rfl rfl rfl rfl rfl (fun _ => ?_)) | refine Pw.list (Pw.build rfl rfl rfl rfl ?_) | refine Pw.list (Pw.ld rfl inferInstance rfl rfl rfl ?_) | refine Pw.list (Pw.sto rfl rfl inferInstance rfl rfl rfl rfl rfl inferInstance rfl ?_))
          refine Pw.re (d := 10) (v' := .int .u64 (((bel (l.map rq) y (k + 1)).length : Nat) : Int)) rfl (congrArg (Value.int .u64) (by rw [eL, wu (by omega) (by omega)]; omega)) ?_
          refine Pw.re (d := 46) (v' := .int .i64 ((k + 1 : Nat) : Int)) rfl (congrArg (Value.int .i64) (i64s (n := 100000) (by omega) (by omega))) ?_
          exact Pw.again (k + 1, z') (by show k + 1 ≤ l.length; omega) (by show l.length - (k + 1) < l.length - k; omega) ⟨rfl, rfl, rfl, rfl, rfl, rfl, rfl, rfl, rfl, rfl, trivial⟩ rfl (fun w h => allCons (hv w h) (allCons (hv w h) (allCons (hv w h) (allCons (hv w h) allNil))))
      · have hpy : ¬ p ≤ y := fun e => c5 (cmpQ_le.2 e)
        have eB := BS_out (st := st) htr hpy
        have eL := bel_out htr hpy
        repeat (first | (with_reducible first | refine Pw.seq ?_ | refine Pw.region ?_ | refine Pw.nil ?_ | refine Pw.then_ ?_ | refine Pw.skip ?_ | refine Pw.block ?_ | refine Pw.exit ?_ | refine Pw.inX ?_ | refine Pw.inN ?_ | refine Pw.inR ?_ | refine Pw.thenX ?_ | refine Pw.thenR ?_ | refine Pw.ret ?_) | refine Pw.list (Pw.pure rfl rfl rfl ?_) | refine Pw.inY rfl ?_ | refine Pw.list (Pw.off rfl rfl ?_) | refine Pw.condT rfl ?_ | refine Pw.condF rfl ?_ | refine Pw.list (Pw.box rfl rfl rfl rfl (fun _ => ?_)) | refine Pw.list (Pw.alloc rfl rfl rfl rfl rfl (fun _ => ?_)) | refine Pw.list (Pw.build rfl rfl rfl rfl ?_) | refine Pw.list (Pw.ld rfl inferInstance rfl rfl rfl ?_) | refine Pw.list (Pw.sto rfl rfl inferInstance rfl rfl rfl rfl rfl inferInstance rfl ?_))
        refine Pw.re (d := 46) (v' := .int .i64 ((k + 1 : Nat) : Int)) rfl (congrArg (Value.int .i64) (i64s (n := 100000) (by omega) (by omega))) ?_
        exact Pw.again (k + 1, z9) (by show k + 1 ≤ l.length; omega) (by show l.length - (k + 1) < l.length - k; omega) (by rw [eL]; exact ⟨rfl, rfl, rfl, rfl, rfl, rfl, rfl, rfl, rfl, rfl, trivial⟩) (by rw [eB]) (fun w h => by rw [eB]; exact allCons (hv w h) (allCons (hv w h) (allCons (hv w h) (allCons (hv w h) allNil))))
    · obtain rfl : k = l.length := by omega
      have hyb : y ∈ l.map rq := List.mem_of_getElem? hsr
      have ebel : bel (l.map rq) y l.length = below (l.map rq) y := by unfold bel; rw [List.take_of_length_le (by omega)]
      have hn0 := below_pos hyb
      have hn8 : (below (l.map rq) y).length ≤ 8 := Nat.le_trans (List.length_filter_le _ _) (by omega)
      have elv : BS (l.map rq) st y l.length / (((below (l.map rq) y).length : Nat) : Int) = lvl (l.map rq) st y := by unfold BS lvl; rw [ebel]
      have hnz : Sz 1 (((((below (l.map rq) y).length : Nat) : Int)) : Rat) := sz_int (by omega) (by show _ < (4294967296 : Int); omega) (by omega)
      have hnp : (0 : Rat) < (((((below (l.map rq) y).length : Nat) : Int)) : Rat) := by have e : ((0 : Int) : Rat) = 0 := rfl; rw [← e, Rat.intCast_lt_intCast]; omega
      have hBz := hbz y l.length (Nat.le_refl _)
      have hxz := hTq.sz hyl
      rw [ebel]
      repeat (first | (with_reducible first | refine Pw.seq ?_ | refine Pw.region ?_ | refine Pw.nil ?_ | refine Pw.then_ ?_ | refine Pw.skip ?_ | refine Pw.block ?_ | refine Pw.exit ?_ | refine Pw.inX ?_ | refine Pw.inN ?_ | refine Pw.inR ?_ | refine Pw.thenX ?_ | refine Pw.thenR ?_ | refine Pw.ret ?_) | refine Pw.list (Pw.pure rfl rfl rfl ?_) | refine Pw.inY rfl ?_ | refine Pw.list (Pw.off rfl rfl ?_) | refine Pw.condT rfl ?_ | refine Pw.condF rfl ?_ | refine Pw.list (Pw.box rfl rfl rfl rfl (fun _ => ?_)) | refine Pw.list (Pw.alloc rfl rfl rfl rfl rfl (fun _ => ?_)) | refine Pw.list (Pw.build rfl rfl rfl rfl ?_) | refine Pw.list (Pw.ld rfl inferInstance rfl rfl rfl ?_) | refine Pw.list (Pw.sto rfl rfl inferInstance rfl rfl rfl rfl rfl inferInstance rfl ?_))
      refine freeHead ?_
      refine Pw.join (σ := Nat × Z2) (fun _ => True) (fun t => ⟨[(0, .int .u64 st), (1, .slice (some ad) l.length c), (7, .pointer (some ⟨g7, 0, none⟩)), (8, .int .i64 i), (12, .pointer (some ⟨t.1, 0, none⟩)), (38, .int .i64 l.length), (39, .int .i64 i)], [⟨t.1, row [sl (qn (lvl (l.map rq) st y)) t.2.1, sl (qd (lvl (l.map rq) st y)) t.2.2] 40⟩, ⟨g7, row [sl la zl.1, sl lb zl.2] 40⟩], [QW (lvl (l.map rq) st y) t.2, QW y ys, R2 la lb zl, RS l (some ad, c)]⟩) ?_ ?_
      · skip
        refine Pw.drawnG mixed rfl rfl ?_
        refine Pw.takeF 0 (nb 6 1) rfl rfl inferInstance rfl rfl rfl (by kernel_rfl) np sf ?_
        refine Pw.takeP 1 (nb 6 3) rfl rfl rfl rfl (by kernel_rfl) np sf ?_
        refine Pw.two 2 4 (nb 6 7) (nb 6 19) rfl rfl (by kernel_rfl) ?_ ?_
        · skip
          refine Pw.call (rwholeN_ct (n := (((below (l.map rq) y).length : Nat) : Int)) (by omega) (by omega)) rfl rfl rfl (by kernel_rfl) rfl rfl (fun w h => trivial) ?_
          intro zn _
          refine Pw.held sf ?_
          refine Pw.two 3 4 (nb 6 15) (nb 6 23) rfl rfl (by kernel_rfl) ?_ ?_
          · skip
            refine Pw.call (rqOver_ct hBz hnz z9 zn (by omega) hnp) rfl rfl rfl (by kernel_rfl) rfl rfl (fun w h => ⟨(hv w h), (hv w h)⟩) ?_
            intro z12 _
            rw [elv]
            refine Pw.held sf ?_
            refine Pw.one 4 (nb 6 31) rfl (by kernel_rfl) ?_
            refine Pw.alloc rfl rfl rfl rfl rfl (fun g12 => ?_)
            refine Pw.held sf ?_
            refine Pw.one 5 (nb 6 63) rfl (by kernel_rfl) ?_
            refine Pw.sto rfl rfl inferInstance rfl rfl rfl rfl rfl inferInstance rfl ?_
            refine Pw.held sf ?_
            refine Pw.done (by kernel_rfl) ?_
            exact Pw.then_ (Pw.arrive (g12, z12) trivial ⟨rfl, rfl, rfl, rfl, rfl, rfl, rfl, trivial⟩ rfl (fun w h => allCons (hv w h) (allCons (hv w h) (allCons (hv w h) (allCons (hv w h) allNil)))))
          · skip
            refine Pw.alloc rfl rfl rfl rfl rfl (fun g12 => ?_)
            refine Pw.held sf ?_
            refine Pw.one 3 (nb 6 31) rfl (by kernel_rfl) ?_
            refine Pw.call (rqOver_ct hBz hnz z9 zn (by omega) hnp) rfl rfl rfl (by kernel_rfl) rfl rfl (fun w h => ⟨(hv w h), (hv w h)⟩) ?_
            intro z12 _
            rw [elv]
            refine Pw.held sf ?_
            refine Pw.one 5 (nb 6 63) rfl (by kernel_rfl) ?_
            refine Pw.sto rfl rfl inferInstance rfl rfl rfl rfl rfl inferInstance rfl ?_
            refine Pw.held sf ?_
            refine Pw.done (by kernel_rfl) ?_
            exact Pw.then_ (Pw.arrive (g12, z12) trivial ⟨rfl, rfl, rfl, rfl, rfl, rfl, rfl, trivial⟩ rfl (fun w h => allCons (hv w h) (allCons (hv w h) (allCons (hv w h) (allCons (hv w h) allNil)))))
        · skip
          refine Pw.alloc rfl rfl rfl rfl rfl (fun g12 => ?_)
          refine Pw.held sf ?_
          refine Pw.one 2 (nb 6 23) rfl (by kernel_rfl) ?_
          refine Pw.call (rwholeN_ct (n := (((below (l.map rq) y).length : Nat) : Int)) (by omega) (by omega)) rfl rfl rfl (by kernel_rfl) rfl rfl (fun w h => trivial) ?_
          intro zn _
          refine Pw.held sf ?_
          refine Pw.one 3 (nb 6 31) rfl (by kernel_rfl) ?_
          refine Pw.call (rqOver_ct hBz hnz z9 zn (by omega) hnp) rfl rfl rfl (by kernel_rfl) rfl rfl (fun w h => ⟨(hv w h), (hv w h)⟩) ?_
          intro z12 _
          rw [elv]
          refine Pw.held sf ?_
          refine Pw.one 5 (nb 6 63) rfl (by kernel_rfl) ?_
          refine Pw.sto rfl rfl inferInstance rfl rfl rfl rfl rfl inferInstance rfl ?_
          refine Pw.held sf ?_
          refine Pw.done (by kernel_rfl) ?_
          exact Pw.then_ (Pw.arrive (g12, z12) trivial ⟨rfl, rfl, rfl, rfl, rfl, rfl, rfl, trivial⟩ rfl (fun w h => allCons (hv w h) (allCons (hv w h) (allCons (hv w h) (allCons (hv w h) allNil)))))
      rintro ⟨g12, z12⟩ _
      dsimp only
      refine freeHead ?_
      obtain ⟨X, hX⟩ : ∃ X, X = lvl (l.map rq) st y := ⟨_, rfl⟩
      rw [← hX] at hxz ⊢
      repeat (first | (with_reducible first | refine Pw.seq ?_ | refine Pw.region ?_ | refine Pw.nil ?_ | refine Pw.then_ ?_ | refine Pw.skip ?_ | refine Pw.block ?_ | refine Pw.exit ?_ | refine Pw.inX ?_ | refine Pw.inN ?_ | refine Pw.inR ?_ | refine Pw.thenX ?_ | refine Pw.thenR ?_ | refine Pw.ret ?_) | refine Pw.list (Pw.pure rfl rfl rfl ?_) | refine Pw.inY rfl ?_ | refine Pw.list (Pw.off rfl rfl ?_) | refine Pw.condT rfl ?_ | refine Pw.condF rfl ?_ | refine Pw.list (Pw.box rfl rfl rfl rfl (fun _ => ?_)) | refine Pw.list (Pw.alloc rfl rfl rfl rfl rfl (fun _ => ?_)) | refine Pw.list (Pw.build rfl rfl rfl rfl ?_) | refine Pw.list (Pw.ld rfl inferInstance rfl rfl rfl ?_) | refine Pw.list (Pw.sto rfl rfl inferInstance rfl rfl rfl rfl rfl inferInstance rfl ?_))
      refine Pw.drawnG mixed rfl rfl ?_
      refine Pw.takeF 0 (nb 19 1) rfl rfl inferInstance rfl rfl rfl (by kernel_rfl) np sf ?_
      refine Pw.takeP 1 (nb 19 3) rfl rfl rfl rfl (by kernel_rfl) np sf ?_
      refine Pw.takeP 2 (nb 19 7) rfl rfl rfl rfl (by kernel_rfl) np sf ?_
      refine Pw.takeIx 3 (nb 19 15) rfl rfl rfl rfl rfl (by first | assumption | omega) (by first | assumption | omega) rfl rfl (by kernel_rfl) np sf ?_
      refine Pw.takeLA ⟨qn y,qd y,ys⟩ 4 (nb 19 31) rfl rfl inferInstance rfl (by first | assumption | (rw [Int.toNat_natCast]; assumption)) (by kernel_rfl) rfl rfl (by kernel_rfl) np sf ?_
      refine Pw.one 5 (nb 19 63) rfl (by kernel_rfl) ?_
      -- call Op.call { callee := Callee.value (Operand.func 23), args := #[Operand.tmp 72, Operand.tmp 76], argTypes := #[40, 40] }
      refine Pw.call (rqCmp_ct hxz hy z12 ys (by omega)) rfl rfl rfl (by kernel_rfl) rfl rfl (fun w h => ⟨(hv w h), (hv w h)⟩) ?_
      intro _ _
      refine Pw.held sf ?_
      refine Pw.takeP 6 (nb 19 127) rfl rfl rfl rfl (by kernel_rfl) np sf ?_
      by_cases hok : y ≤ X
      · refine Pw.re (d := 78) (v' := .bool true) rfl (congrArg Value.bool (decide_eq_true (cmpQ_ge.2 hok))) ?_
        refine Pw.takeP 7 (nb 19 255) rfl rfl rfl rfl (by kernel_rfl) np sf ?_
        refine Pw.takeP 8 (nb 19 511) rfl rfl rfl rfl (by kernel_rfl) np sf ?_
        refine Pw.one 9 (nb 19 1023) rfl (by kernel_rfl) ?_
        -- load Op.load 38 (Operand.tmp 80)
        refine Pw.ld rfl inferInstance rfl rfl rfl ?_
        refine Pw.held sf ?_
        cases lo with
        | none =>
          obtain ⟨rfl, rfl⟩ := hC
          refine Pw.takeP 10 (nb 19 2047) rfl rfl rfl rfl (by kernel_rfl) np sf ?_
          refine Pw.takeP 11 (nb 19 4095) rfl rfl rfl rfl (by kernel_rfl) np sf ?_
          refine Pw.takeP 12 (nb 19 8191) rfl rfl rfl rfl (by kernel_rfl) np sf ?_
          refine Pw.takeO 13 (nb 19 16383) rfl rfl rfl (by kernel_rfl) np sf ?_
          refine Pw.takeO 14 (nb 19 32767) rfl rfl rfl (by kernel_rfl) np sf ?_
          refine Pw.takeO 15 (nb 19 65535) rfl rfl rfl (by kernel_rfl) np sf ?_
          refine Pw.takeO 16 (nb 19 131071) rfl rfl rfl (by kernel_rfl) np sf ?_
          refine Pw.takeP 17 (nb 19 262143) rfl rfl rfl rfl (by kernel_rfl) np sf ?_
          refine Pw.takeP 18 (nb 19 524287) rfl rfl rfl rfl (by kernel_rfl) np sf ?_
          refine Pw.done (by kernel_rfl) ?_
          repeat (first | (with_reducible first | refine Pw.seq ?_ | refine Pw.region ?_ | refine Pw.nil ?_ | refine Pw.then_ ?_ | refine Pw.skip ?_ | refine Pw.block ?_ | refine Pw.exit ?_ | refine Pw.inX ?_ | refine Pw.inN ?_ | refine Pw.inR ?_ | refine Pw.thenX ?_ | refine Pw.thenR ?_ | refine Pw.ret ?_) | refine Pw.list (Pw.pure rfl rfl rfl ?_) | refine Pw.inY rfl ?_ | refine Pw.list (Pw.off rfl rfl ?_) | refine Pw.condT rfl ?_ | refine Pw.condF rfl ?_ | refine Pw.list (Pw.box rfl rfl rfl rfl (fun _ => ?_)) | refine Pw.list (Pw.alloc rfl rfl rfl rfl rfl (fun _ => ?_)) | refine Pw.list (Pw.build rfl rfl rfl rfl ?_) | refine Pw.list (Pw.ld rfl inferInstance rfl rfl rfl ?_) | refine Pw.list (Pw.sto rfl rfl inferInstance rfl rfl rfl rfl rfl inferInstance rfl ?_))
          refine Pw.re (d := 39) (v' := .int .i64 ((i + 1 : Nat) : Int)) rfl (congrArg (Value.int .i64) (i64s (n := 100000) (by omega) (by omega))) ?_
          exact Pw.again (i + 1, some X, qn X, qd X, z12) ⟨by omega, by rw [hX]; exact rlv_new hR hsr (by rw [← hX]; exact hok) (fun x h => by cases h), rfl, rfl⟩ (by show l.length - (i + 1) < l.length - i; omega) ⟨rfl, rfl, rfl, rfl, rfl, trivial⟩ rfl (fun w h => allCons (hv w h) (allCons (hv w h) allNil))
        | some x0 =>
          obtain ⟨rfl, rfl⟩ := hC
          obtain ⟨s0, hs0, hx0, _⟩ := rlv_val hR
          have hx0z : Sz (b + 1 + d) x0 := by rw [hx0]; exact hTq.sz (hlv s0 hs0)
          have hqp := qd_pos x0
          refine Pw.takeP 10 (nb 19 2047) rfl rfl rfl rfl (by kernel_rfl) np sf ?_
          refine Pw.takeP 11 (nb 19 4095) rfl rfl rfl rfl (by kernel_rfl) np sf ?_
          refine Pw.re (d := 83) (v' := .bool false) rfl (congrArg Value.bool (decide_eq_false (by omega))) ?_
          refine Pw.takeP 12 (nb 19 8191) rfl rfl rfl rfl (by kernel_rfl) np sf ?_
          refine Pw.takeF 13 (nb 19 16383) rfl rfl inferInstance rfl rfl rfl (by kernel_rfl) np sf ?_
          refine Pw.one 14 (nb 19 32767) rfl (by kernel_rfl) ?_
          -- load Op.load 40 (Operand.tmp 7)
          refine Pw.ld rfl inferInstance rfl rfl rfl ?_
          refine Pw.held sf ?_
          refine Pw.one 15 (nb 19 65535) rfl (by kernel_rfl) ?_
          -- call Op.call { callee := Callee.value (Operand.func 23), args := #[Operand.tmp 85, Operand.tmp 86], argTypes := #[40, 40] }
          refine Pw.call (rqCmp_ct hxz hx0z z12 zl (by omega)) rfl rfl rfl (by kernel_rfl) rfl rfl (fun w h => ⟨(hv w h), (hv w h)⟩) ?_
          intro _ _
          refine Pw.held sf ?_
          refine Pw.takeP 16 (nb 19 131071) rfl rfl rfl rfl (by kernel_rfl) np sf ?_
          refine Pw.takeP 17 (nb 19 262143) rfl rfl rfl rfl (by kernel_rfl) np sf ?_
          refine Pw.takeP 18 (nb 19 524287) rfl rfl rfl rfl (by kernel_rfl) np sf ?_
          refine Pw.done (by kernel_rfl) ?_
          refine Pw.then_ (Pw.condD rfl (fun c6 => ?_) (fun c6 => ?_))
          · have hlt := cmpQ_neg'.1 c6
            repeat (first | (with_reducible first | refine Pw.seq ?_ | refine Pw.region ?_ | refine Pw.nil ?_ | refine Pw.then_ ?_ | refine Pw.skip ?_ | refine Pw.block ?_ | refine Pw.exit ?_ | refine Pw.inX ?_ | refine Pw.inN ?_ | refine Pw.inR ?_ | refine Pw.thenX ?_ | refine Pw.thenR ?_ | refine Pw.ret ?_) | refine Pw.list (Pw.pure rfl rfl rfl ?_) | refine Pw.inY rfl ?_ | refine Pw.list (Pw.off rfl rfl ?_) | refine Pw.condT rfl ?_ | refine Pw.condF rfl ?_ | refine Pw.list (Pw.box rfl rfl rfl rfl (fun _ => ?_)) | refine Pw.list (Pw.alloc rfl rfl rfl rfl rfl (fun _ => ?_)) | refine Pw.list (Pw.build rfl rfl rfl rfl ?_) | refine Pw.list (Pw.ld rfl inferInstance rfl rfl rfl ?_) | refine Pw.list (Pw.sto rfl rfl inferInstance rfl rfl rfl rfl rfl inferInstance rfl ?_))
            refine Pw.re (d := 39) (v' := .int .i64 ((i + 1 : Nat) : Int)) rfl (congrArg (Value.int .i64) (i64s (n := 100000) (by omega) (by omega))) ?_
            exact Pw.again (i + 1, some X, qn X, qd X, z12) ⟨by omega, by rw [hX]; exact rlv_new hR hsr (by rw [← hX]; exact hok) (fun x h => by cases h; rw [← hX]; exact hlt), rfl, rfl⟩ (by show l.length - (i + 1) < l.length - i; omega) ⟨rfl, rfl, rfl, rfl, rfl, trivial⟩ rfl (fun w h => allCons (hv w h) (allCons (hv w h) allNil))
          · repeat (first | (with_reducible first | refine Pw.seq ?_ | refine Pw.region ?_ | refine Pw.nil ?_ | refine Pw.then_ ?_ | refine Pw.skip ?_ | refine Pw.block ?_ | refine Pw.exit ?_ | refine Pw.inX ?_ | refine Pw.inN ?_ | refine Pw.inR ?_ | refine Pw.thenX ?_ | refine Pw.thenR ?_ | refine Pw.ret ?_) | refine Pw.list (Pw.pure rfl rfl rfl ?_) | refine Pw.inY rfl ?_ | refine Pw.list (Pw.off rfl rfl ?_) | refine Pw.condT rfl ?_ | refine Pw.condF rfl ?_ | refine Pw.list (Pw.box rfl rfl rfl rfl (fun _ => ?_)) | refine Pw.list (Pw.alloc rfl rfl rfl rfl rfl (fun _ => ?_)) | refine Pw.list (Pw.build rfl rfl rfl rfl ?_) | refine Pw.list (Pw.ld rfl inferInstance rfl rfl rfl ?_) | refine Pw.list (Pw.sto rfl rfl inferInstance rfl rfl rfl rfl rfl inferInstance rfl ?_))
            refine Pw.re (d := 39) (v' := .int .i64 ((i + 1 : Nat) : Int)) rfl (congrArg (Value.int .i64) (i64s (n := 100000) (by omega) (by omega))) ?_
            exact Pw.again (i + 1, some x0, qn x0, qd x0, zl) ⟨by omega, rlv_keep hR hsr (by rw [← hX]; exact fun e => c6 (cmpQ_neg'.2 e)), rfl, rfl⟩ (by show l.length - (i + 1) < l.length - i; omega) ⟨rfl, rfl, rfl, rfl, rfl, trivial⟩ rfl (fun w h => allCons (hv w h) (allCons (hv w h) allNil))
      · refine Pw.re (d := 78) (v' := .bool false) rfl (congrArg Value.bool (decide_eq_false (fun e => hok (cmpQ_ge.1 e)))) ?_
        refine Pw.takeP 7 (nb 19 255) rfl rfl rfl rfl (by kernel_rfl) np sf ?_
        refine Pw.takeO 8 (nb 19 511) rfl rfl rfl (by kernel_rfl) np sf ?_
        refine Pw.takeO 9 (nb 19 1023) rfl rfl rfl (by kernel_rfl) np sf ?_
        refine Pw.takeO 10 (nb 19 2047) rfl rfl rfl (by kernel_rfl) np sf ?_
        refine Pw.takeO 11 (nb 19 4095) rfl rfl rfl (by kernel_rfl) np sf ?_
        refine Pw.takeO 12 (nb 19 8191) rfl rfl rfl (by kernel_rfl) np sf ?_
        refine Pw.takeO 13 (nb 19 16383) rfl rfl rfl (by kernel_rfl) np sf ?_
        refine Pw.takeO 14 (nb 19 32767) rfl rfl rfl (by kernel_rfl) np sf ?_
        refine Pw.takeO 15 (nb 19 65535) rfl rfl rfl (by kernel_rfl) np sf ?_
        refine Pw.takeO 16 (nb 19 131071) rfl rfl rfl (by kernel_rfl) np sf ?_
        refine Pw.takeO 17 (nb 19 262143) rfl rfl rfl (by kernel_rfl) np sf ?_
        refine Pw.takeP 18 (nb 19 524287) rfl rfl rfl rfl (by kernel_rfl) np sf ?_
        refine Pw.done (by kernel_rfl) ?_
        repeat (first | (with_reducible first | refine Pw.seq ?_ | refine Pw.region ?_ | refine Pw.nil ?_ | refine Pw.then_ ?_ | refine Pw.skip ?_ | refine Pw.block ?_ | refine Pw.exit ?_ | refine Pw.inX ?_ | refine Pw.inN ?_ | refine Pw.inR ?_ | refine Pw.thenX ?_ | refine Pw.thenR ?_ | refine Pw.ret ?_) | refine Pw.list (Pw.pure rfl rfl rfl ?_) | refine Pw.inY rfl ?_ | refine Pw.list (Pw.off rfl rfl ?_) | refine Pw.condT rfl ?_ | refine Pw.condF rfl ?_ | refine Pw.list (Pw.box rfl rfl rfl rfl (fun _ => ?_)) | refine Pw.list (Pw.alloc rfl rfl rfl rfl rfl (fun _ => ?_)) | refine Pw.list (Pw.build rfl rfl rfl rfl ?_) | refine Pw.list (Pw.ld rfl inferInstance rfl rfl rfl ?_) | refine Pw.list (Pw.sto rfl rfl inferInstance rfl rfl rfl rfl rfl inferInstance rfl ?_))
        refine Pw.re (d := 39) (v' := .int .i64 ((i + 1 : Nat) : Int)) rfl (congrArg (Value.int .i64) (i64s (n := 100000) (by omega) (by omega))) ?_
        exact Pw.again (i + 1, lo, la, lb, zl) ⟨by omega, rlv_no hR hsr (by rw [← hX]; exact hok), hC⟩ (by show l.length - (i + 1) < l.length - i; omega) ⟨rfl, rfl, rfl, rfl, rfl, trivial⟩ rfl (fun w h => allCons (hv w h) (allCons (hv w h) allNil))
  · obtain rfl : i = l.length := by omega
    rw [← hwl] at hR
    have hlo := rlv_end hlev hR
    subst hlo
    obtain ⟨rfl, rfl⟩ := hC
    repeat (first | (with_reducible first | refine Pw.seq ?_ | refine Pw.region ?_ | refine Pw.nil ?_ | refine Pw.then_ ?_ | refine Pw.skip ?_ | refine Pw.block ?_ | refine Pw.exit ?_ | refine Pw.inX ?_ | refine Pw.inN ?_ | refine Pw.inR ?_ | refine Pw.thenX ?_ | refine Pw.thenR ?_ | refine Pw.ret ?_) | refine Pw.list (Pw.pure rfl rfl rfl ?_) | refine Pw.inY rfl ?_ | refine Pw.list (Pw.off rfl rfl ?_) | refine Pw.condT rfl ?_ | refine Pw.condF rfl ?_ | refine Pw.list (Pw.box rfl rfl rfl rfl (fun _ => ?_)) | refine Pw.list (Pw.alloc rfl rfl rfl rfl rfl (fun _ => ?_)) | refine Pw.list (Pw.build rfl rfl rfl rfl ?_) | refine Pw.list (Pw.ld rfl inferInstance rfl rfl rfl ?_) | refine Pw.list (Pw.sto rfl rfl inferInstance rfl rfl rfl rfl rfl inferInstance rfl ?_))
    refine freeHead ?_
    refine Pw.facts (G' := [fun W => W.heap[g7]? = some (row [sl (qn u) zl.1, sl (qd u) zl.2] 40), QW u zl, RS l (A, c), AllR []]) (fun w h => allCons (fact0 h) (allCons (hv w h) (allCons (hv w h) (allCons (fun r hr => by cases hr) allNil)))) ?_
    refine Pw.loopJ (σ := Nat × Gr × List Rt) (fun t => t.1 ≤ l.length ∧ t.2.2.map (fun t => (t.a, t.b)) = outT ((l.take t.1).map rq) u ∧ gOk t.2.1 (cellsR t.2.2) t.1 2) (fun t => ⟨[(1, .slice A l.length c), (7, .pointer (some ⟨g7, 0, none⟩)), (13, gv t.2.1 t.1), (94, .int .i64 l.length), (95, .int .i64 t.1)], gL1 t.2.1 (cellsR t.2.2) 40, [fun W => W.heap[g7]? = some (row [sl (qn u) zl.1, sl (qd u) zl.2] 40), QW u zl, RS l (A, c), AllR t.2.2]⟩) (fun t => l.length - t.1) (0, none, []) ⟨Nat.zero_le _, rfl, rfl, rfl⟩ (Pw.enter ⟨rfl, rfl, rfl, rfl, rfl, trivial⟩ (fun w h => h)) ?_
    clear hi c3 hR
    rintro ⟨i, q, rs⟩ ⟨hi, hrs, hqo⟩
    dsimp only at hi hrs hqo ⊢
    repeat (first | (with_reducible first | refine Pw.seq ?_ | refine Pw.region ?_ | refine Pw.nil ?_ | refine Pw.then_ ?_ | refine Pw.skip ?_ | refine Pw.block ?_ | refine Pw.exit ?_ | refine Pw.inX ?_ | refine Pw.inN ?_ | refine Pw.inR ?_ | refine Pw.thenX ?_ | refine Pw.thenR ?_ | refine Pw.ret ?_) | refine Pw.list (Pw.pure rfl rfl rfl ?_) | refine Pw.inY rfl ?_ | refine Pw.list (Pw.off rfl rfl ?_) | refine Pw.condT rfl ?_ | refine Pw.condF rfl ?_ | refine Pw.list (Pw.box rfl rfl rfl rfl (fun _ => ?_)) | refine Pw.list (Pw.alloc rfl rfl rfl rfl rfl (fun _ => ?_)) | refine Pw.list (Pw.build rfl rfl rfl rfl ?_) | refine Pw.list (Pw.ld rfl inferInstance rfl rfl rfl ?_) | refine Pw.list (Pw.sto rfl rfl inferInstance rfl rfl rfl rfl rfl inferInstance rfl ?_))
    refine Pw.condD rfl (fun c3 => ?_) (fun c3 => ?_)
    · obtain ⟨s, hsi, hsm⟩ := get_at (show i < l.length by omega)
      have em := map_take_snocT (f := rq) hsi
      obtain ⟨y, ys, rfl, hy, hyq⟩ := rtq_ex (hrq s hsm)
      rw [hyq] at em
      have hi0 : 0 ≤ (i : Int) := Int.natCast_nonneg i
      refine Pw.use (p := A.isSome = true) (fun w h => (hv w h : RS l (A, c) w).has hi0 c3) (fun hA => ?_)
      obtain ⟨ad, rfl⟩ := Option.isSome_iff_exists.1 hA
      refine Pw.more (φ := QW y ys) (fun w h => ((hv w h : RS l (some ad, c) w).at hsi).2.1) ?_
      repeat (first | (with_reducible first | refine Pw.seq ?_ | refine Pw.region ?_ | refine Pw.nil ?_ | refine Pw.then_ ?_ | refine Pw.skip ?_ | refine Pw.block ?_ | refine Pw.exit ?_ | refine Pw.inX ?_ | refine Pw.inN ?_ | refine Pw.inR ?_ | refine Pw.thenX ?_ | refine Pw.thenR ?_ | refine Pw.ret ?_) | refine Pw.list (Pw.pure rfl rfl rfl ?_) | refine Pw.inY rfl ?_ | refine Pw.list (Pw.off rfl rfl ?_) | refine Pw.condT rfl ?_ | refine Pw.condF rfl ?_ | refine Pw.list (Pw.box rfl rfl rfl rfl (fun _ => ?_)) | refine Pw.list (Pw.alloc rfl rfl rfl rfl rfl (fun _ => ?_)) | refine Pw.list (Pw.build rfl rfl rfl rfl ?_) | refine Pw.list (Pw.ld rfl inferInstance rfl rfl rfl ?_) | refine Pw.list (Pw.sto rfl rfl inferInstance rfl rfl rfl rfl rfl inferInstance rfl ?_))
      refine Pw.list (Pw.call (rwholeN_ct (n := 0) (by omega) (by omega)) rfl rfl rfl (by kernel_rfl) rfl rfl (fun w h => trivial) ?_)
      intro z15 _
      repeat (first | (with_reducible first | refine Pw.seq ?_ | refine Pw.region ?_ | refine Pw.nil ?_ | refine Pw.then_ ?_ | refine Pw.skip ?_ | refine Pw.block ?_ | refine Pw.exit ?_ | refine Pw.inX ?_ | refine Pw.inN ?_ | refine Pw.inR ?_ | refine Pw.thenX ?_ | refine Pw.thenR ?_ | refine Pw.ret ?_) | refine Pw.list (Pw.pure rfl rfl rfl ?_) | refine Pw.inY rfl ?_ | refine Pw.list (Pw.off rfl rfl ?_) | refine Pw.condT rfl ?_ | refine Pw.condF rfl ?_ | refine Pw.list (Pw.box rfl rfl rfl rfl (fun _ => ?_)) | refine Pw.list (Pw.alloc rfl rfl rfl rfl rfl (fun _ => ?_)) | refine Pw.list (Pw.build rfl rfl rfl rfl ?_) | refine Pw.list (Pw.ld rfl inferInstance rfl rfl rfl ?_) | refine Pw.list (Pw.sto rfl rfl inferInstance rfl rfl rfl rfl rfl inferInstance rfl ?_))
      rename_i g15
      refine Pw.drawnG mixed rfl rfl ?_
      refine Pw.takeP 0 (nb 7 1) rfl rfl rfl rfl (by kernel_rfl) np sf ?_
      refine Pw.takeP 1 (nb 7 3) rfl rfl rfl rfl (by kernel_rfl) np sf ?_
      refine Pw.takeIx 2 (nb 7 7) rfl rfl rfl rfl rfl (by first | assumption | omega) (by first | assumption | omega) rfl rfl (by kernel_rfl) np sf ?_
      refine Pw.takeLA ⟨qn y,qd y,ys⟩ 3 (nb 7 15) rfl rfl inferInstance rfl (by first | assumption | (rw [Int.toNat_natCast]; assumption)) (by kernel_rfl) rfl rfl (by kernel_rfl) np sf ?_
      refine Pw.takeF 4 (nb 7 31) rfl rfl inferInstance rfl rfl rfl (by kernel_rfl) np sf ?_
      refine Pw.one 5 (nb 7 63) rfl (by kernel_rfl) ?_
      -- call Op.call { callee := Callee.value (Operand.func 23), args := #[Operand.tmp 102, Operand.tmp 103], argTypes := #[40, 40] }
      refine Pw.call (rqCmp_ct hy huz ys zl (by omega)) rfl rfl rfl (by kernel_rfl) rfl rfl (fun w h => ⟨(hv w h), (hv w h)⟩) ?_
      intro _ _
      refine Pw.held sf ?_
      refine Pw.takeP 6 (nb 7 127) rfl rfl rfl rfl (by kernel_rfl) np sf ?_
      refine Pw.done (by kernel_rfl) ?_
      refine Pw.then_ ?_
      refine Pw.joinF (σ := Z2) (fun _ => True) (fun t => ⟨[(1, .slice (some ad) l.length c), (7, .pointer (some ⟨g7, 0, none⟩)), (13, gv q i), (14, .int .i64 i), (15, .pointer (some ⟨g15, 0, none⟩)), (94, .int .i64 l.length), (95, .int .i64 i)], ⟨g15, row [sl (qn (gn u y)) t.1, sl (qd (gn u y)) t.2] 40⟩ :: gL1 q (cellsR rs) 40, [QW (gn u y) t, QW y ys, fun W => W.heap[g7]? = some (row [sl (qn u) zl.1, sl (qd u) zl.2] 40), QW u zl, RS l (some ad, c), AllR rs]⟩) ?_ ?_
      · refine Pw.condD rfl (fun c5 => ?_) (fun c5 => ?_)
        · have hyu := cmpQ_neg'.1 c5
          repeat (first | (with_reducible first | refine Pw.seq ?_ | refine Pw.region ?_ | refine Pw.nil ?_ | refine Pw.then_ ?_ | refine Pw.skip ?_ | refine Pw.block ?_ | refine Pw.exit ?_ | refine Pw.inX ?_ | refine Pw.inN ?_ | refine Pw.inR ?_ | refine Pw.thenX ?_ | refine Pw.thenR ?_ | refine Pw.ret ?_) | refine Pw.list (Pw.pure rfl rfl rfl ?_) | refine Pw.inY rfl ?_ | refine Pw.list (Pw.off rfl rfl ?_) | refine Pw.condT rfl ?_ | refine Pw.condF rfl ?_ | refine Pw.list (Pw.box rfl rfl rfl rfl (fun _ => ?_)) | refine Pw.list (Pw.alloc rfl rfl rfl rfl rfl (fun _ => ?_)) | refine Pw.list (Pw.build rfl rfl rfl rfl ?_) | refine Pw.list (Pw.ld rfl inferInstance rfl rfl rfl ?_) | refine Pw.list (Pw.sto rfl rfl inferInstance rfl rfl rfl rfl rfl inferInstance rfl ?_))
          refine Pw.drawnG mixed rfl rfl ?_
          refine Pw.takeF 0 (nb 7 1) rfl rfl inferInstance rfl rfl rfl (by kernel_rfl) np sf ?_
          refine Pw.takeP 1 (nb 7 3) rfl rfl rfl rfl (by kernel_rfl) np sf ?_
          refine Pw.takeP 2 (nb 7 7) rfl rfl rfl rfl (by kernel_rfl) np sf ?_
          refine Pw.takeIx 3 (nb 7 15) rfl rfl rfl rfl rfl (by first | assumption | omega) (by first | assumption | omega) rfl rfl (by kernel_rfl) np sf ?_
          refine Pw.takeLA ⟨qn y,qd y,ys⟩ 4 (nb 7 31) rfl rfl inferInstance rfl (by first | assumption | (rw [Int.toNat_natCast]; assumption)) (by kernel_rfl) rfl rfl (by kernel_rfl) np sf ?_
          refine Pw.one 5 (nb 7 63) rfl (by kernel_rfl) ?_
          -- call Op.call { callee := Callee.value (Operand.func 26), args := #[Operand.tmp 106, Operand.tmp 110], argTypes := #[40, 40] }
          refine Pw.call (rqMinus_ct huz hy zl ys (by omega) (Rat.le_of_lt hyu)) rfl rfl rfl (by kernel_rfl) rfl rfl (fun w h => ⟨(hv w h), (hv w h)⟩) ?_
          intro zx _
          rw [← gn_sub (Rat.le_of_lt hyu)]
          refine Pw.held sf ?_
          refine Pw.one 6 (nb 7 127) rfl (by kernel_rfl) ?_
          -- eff Op.store 40 (Operand.tmp 15) (Operand.tmp 111)
          refine Pw.sto rfl rfl inferInstance rfl rfl rfl rfl rfl inferInstance rfl ?_
          refine Pw.held sf ?_
          refine Pw.done (by kernel_rfl) ?_
          exact Pw.then_ (Pw.arrive zx trivial ⟨rfl, rfl, rfl, rfl, rfl, rfl, rfl, trivial⟩ rfl (fun w h => allCons (hv w h) (allCons (hv w h) (allCons (by first | exact fact0 (h) | exact fact0 (allTail (h)) | exact fact0 (allTail (allTail (h))) | exact fact0 (allTail (allTail (allTail (h)))) | exact fact0 (allTail (allTail (allTail (allTail (h))))) | exact fact0 (allTail (allTail (allTail (allTail (allTail (h)))))) | exact fact0 (allTail (allTail (allTail (allTail (allTail (allTail (h))))))) | exact fact0 (allTail (allTail (allTail (allTail (allTail (allTail (allTail (h)))))))) | exact fact0 (allTail (allTail (allTail (allTail (allTail (allTail (allTail (allTail (h))))))))) | exact fact0 (allTail (allTail (allTail (allTail (allTail (allTail (allTail (allTail (allTail (h))))))))))) (allCons (hv w h) (allCons (hv w h) (allCons (hv w h) allNil)))))))
        · have hyu : ¬ y < u := fun e => c5 (cmpQ_neg'.2 e)
          have eg : gn u y = ((0 : Int) : Rat) := by unfold gn; rw [if_neg hyu]; rfl
          rw [eg]
          repeat (first | (with_reducible first | refine Pw.seq ?_ | refine Pw.region ?_ | refine Pw.nil ?_ | refine Pw.then_ ?_ | refine Pw.skip ?_ | refine Pw.block ?_ | refine Pw.exit ?_ | refine Pw.inX ?_ | refine Pw.inN ?_ | refine Pw.inR ?_ | refine Pw.thenX ?_ | refine Pw.thenR ?_ | refine Pw.ret ?_) | refine Pw.list (Pw.pure rfl rfl rfl ?_) | refine Pw.inY rfl ?_ | refine Pw.list (Pw.off rfl rfl ?_) | refine Pw.condT rfl ?_ | refine Pw.condF rfl ?_ | refine Pw.list (Pw.box rfl rfl rfl rfl (fun _ => ?_)) | refine Pw.list (Pw.alloc rfl rfl rfl rfl rfl (fun _ => ?_)) | refine Pw.list (Pw.build rfl rfl rfl rfl ?_) | refine Pw.list (Pw.ld rfl inferInstance rfl rfl rfl ?_) | refine Pw.list (Pw.sto rfl rfl inferInstance rfl rfl rfl rfl rfl inferInstance rfl ?_))
          exact Pw.arrive z15 trivial ⟨rfl, rfl, rfl, rfl, rfl, rfl, rfl, trivial⟩ rfl (fun w h => allCons (hv w h) (allCons (hv w h) (allCons (by first | exact fact0 (h) | exact fact0 (allTail (h)) | exact fact0 (allTail (allTail (h))) | exact fact0 (allTail (allTail (allTail (h)))) | exact fact0 (allTail (allTail (allTail (allTail (h))))) | exact fact0 (allTail (allTail (allTail (allTail (allTail (h)))))) | exact fact0 (allTail (allTail (allTail (allTail (allTail (allTail (h))))))) | exact fact0 (allTail (allTail (allTail (allTail (allTail (allTail (allTail (h)))))))) | exact fact0 (allTail (allTail (allTail (allTail (allTail (allTail (allTail (allTail (h))))))))) | exact fact0 (allTail (allTail (allTail (allTail (allTail (allTail (allTail (allTail (allTail (h))))))))))) (allCons (hv w h) (allCons (hv w h) (allCons (hv w h) allNil))))))
      · intro zx _
        dsimp only
        repeat (first | (with_reducible first | refine Pw.seq ?_ | refine Pw.region ?_ | refine Pw.nil ?_ | refine Pw.then_ ?_ | refine Pw.skip ?_ | refine Pw.block ?_ | refine Pw.exit ?_ | refine Pw.inX ?_ | refine Pw.inN ?_ | refine Pw.inR ?_ | refine Pw.thenX ?_ | refine Pw.thenR ?_ | refine Pw.ret ?_) | refine Pw.list (Pw.pure rfl rfl rfl ?_) | refine Pw.inY rfl ?_ | refine Pw.list (Pw.off rfl rfl ?_) | refine Pw.condT rfl ?_ | refine Pw.condF rfl ?_ | refine Pw.list (Pw.box rfl rfl rfl rfl (fun _ => ?_)) | refine Pw.list (Pw.alloc rfl rfl rfl rfl rfl (fun _ => ?_)) | refine Pw.list (Pw.build rfl rfl rfl rfl ?_) | refine Pw.list (Pw.ld rfl inferInstance rfl rfl rfl ?_) | refine Pw.list (Pw.sto rfl rfl inferInstance rfl rfl rfl rfl rfl inferInstance rfl ?_))
        refine freeHead ?_
        refine Pw.list (Pw.lit12 rfl rfl rfl rfl rfl rfl rfl rfl rfl (fun g45 => freeHead ?_))
        refine Pw.list (Pw.push (s := q) (m := i) (cells := cellsR rs) (news := encR ⟨qn (gn u y), qd (gn u y), zx⟩) (L0 := []) rfl rfl rfl rfl rfl rfl rfl hqo rfl (encR_one _) (fun w hs j' u' hu' => by
          have h1 : w.heap[g45]? = some (row (encR ⟨qn (gn u y), qd (gn u y), zx⟩) 40) := fact0 hs.all
          rw [add_none, cell_of_blk h1]
          simpa using hu') (by omega) (by simp only [maxLen]; omega) (by show (i + 1) * 48 ≤ _; omega) rfl rfl (fun q' hq' => ?_))
        rw [← cellsR_snoc] at hq' ⊢
        repeat (first | (with_reducible first | refine Pw.seq ?_ | refine Pw.region ?_ | refine Pw.nil ?_ | refine Pw.then_ ?_ | refine Pw.skip ?_ | refine Pw.block ?_ | refine Pw.exit ?_ | refine Pw.inX ?_ | refine Pw.inN ?_ | refine Pw.inR ?_ | refine Pw.thenX ?_ | refine Pw.thenR ?_ | refine Pw.ret ?_) | refine Pw.list (Pw.pure rfl rfl rfl ?_) | refine Pw.inY rfl ?_ | refine Pw.list (Pw.off rfl rfl ?_) | refine Pw.condT rfl ?_ | refine Pw.condF rfl ?_ | refine Pw.list (Pw.box rfl rfl rfl rfl (fun _ => ?_)) | refine Pw.list (Pw.alloc rfl rfl rfl rfl rfl (fun _ => ?_)) | refine Pw.list (Pw.build rfl rfl rfl rfl ?_) | refine Pw.list (Pw.ld rfl inferInstance rfl rfl rfl ?_) | refine Pw.list (Pw.sto rfl rfl inferInstance rfl rfl rfl rfl rfl inferInstance rfl ?_))
        refine Pw.re (d := 95) (v' := .int .i64 ((i + 1 : Nat) : Int)) rfl (congrArg (Value.int .i64) (i64s (n := 100000) (by omega) (by omega))) ?_
        exact Pw.again (i + 1, q', rs ++ [⟨qn (gn u y), qd (gn u y), zx⟩]) ⟨by omega, by rw [List.map_append, hrs, em]; unfold outT; rw [List.map_append]; rfl, hq'⟩ (by show l.length - (i + 1) < l.length - i; omega) ⟨rfl, rfl, rfl, rfl, rfl, trivial⟩ rfl (fun w h => allCons (by first | exact fact0 (h) | exact fact0 (allTail (h)) | exact fact0 (allTail (allTail (h))) | exact fact0 (allTail (allTail (allTail (h)))) | exact fact0 (allTail (allTail (allTail (allTail (h))))) | exact fact0 (allTail (allTail (allTail (allTail (allTail (h)))))) | exact fact0 (allTail (allTail (allTail (allTail (allTail (allTail (h))))))) | exact fact0 (allTail (allTail (allTail (allTail (allTail (allTail (allTail (h)))))))) | exact fact0 (allTail (allTail (allTail (allTail (allTail (allTail (allTail (allTail (h))))))))) | exact fact0 (allTail (allTail (allTail (allTail (allTail (allTail (allTail (allTail (allTail (h))))))))))) (allCons (hv w h) (allCons (hv w h) (allCons (fun r hr => by
          rcases List.mem_append.1 hr with hr | hr
          · exact (hv w h : AllR rs w) r hr
          · rw [List.mem_singleton.1 hr]
            exact (hv w h : QW (gn u y) zx w)) allNil))))
    · obtain rfl : i = l.length := by omega
      rw [List.take_length] at hrs
      have hrl : rs.length = l.length := by have := congrArg List.length hrs; rw [List.length_map] at this; rw [this]; simp [outT]
      repeat (first | (with_reducible first | refine Pw.seq ?_ | refine Pw.region ?_ | refine Pw.nil ?_ | refine Pw.then_ ?_ | refine Pw.skip ?_ | refine Pw.block ?_ | refine Pw.exit ?_ | refine Pw.inX ?_ | refine Pw.inN ?_ | refine Pw.inR ?_ | refine Pw.thenX ?_ | refine Pw.thenR ?_ | refine Pw.ret ?_) | refine Pw.list (Pw.pure rfl rfl rfl ?_) | refine Pw.inY rfl ?_ | refine Pw.list (Pw.off rfl rfl ?_) | refine Pw.condT rfl ?_ | refine Pw.condF rfl ?_ | refine Pw.list (Pw.box rfl rfl rfl rfl (fun _ => ?_)) | refine Pw.list (Pw.alloc rfl rfl rfl rfl rfl (fun _ => ?_)) | refine Pw.list (Pw.build rfl rfl rfl rfl ?_) | refine Pw.list (Pw.ld rfl inferInstance rfl rfl rfl ?_) | refine Pw.list (Pw.sto rfl rfl inferInstance rfl rfl rfl rfl rfl inferInstance rfl ?_))
      refine Pw.freeG hqo (fun A' c' e hc => ?_)
      refine Pw.re (d := 4) (v' := rsV rs (A', c')) rfl (by rw [e]; show Value.slice A' l.length c' = Value.slice A' rs.length c'; rw [hrl]) ?_
      exact Pw.ret_ (x := (rs, (A', c'), 0)) (.tmp rfl (.tmp rfl .nil)) rfl (by unfold RTurnP; rw [if_neg (by rw [hbad]; simp)]; exact ⟨rfl, hrs⟩) (fun w h => rows_of_cells (fun _ _ => rfl) (fun y hy => (hv w h : AllR rs w) y hy) (by rw [hrl]; exact hc) (by rw [hrl]; simp only [maxLen]; omega) (by omega) (fact0 h))
end Go.Proofs.Wk
/- The law BalanceTurns walked. -/
namespace Go.Proofs.Wk
open Go.RowKit
set_option maxRecDepth 100000
set_option maxHeartbeats 8000000
attribute [local irreducible] Pw OpG
set_option linter.unusedVariables false
set_option linter.unusedSimpArgs false
theorem outT_at' {l P : List Rt} {v : Rat} (h : P.map (fun t => (t.a, t.b)) = outT (l.map rq) v) {i : Nat} {s : Rt} (hs : l[i]? = some s) : ∃ z, P[i]? = some ⟨qn (gn v (rq s)), qd (gn v (rq s)), z⟩ := by
  have h1 : (P.map (fun t => (t.a, t.b)))[i]? = some (qn (gn v (rq s)), qd (gn v (rq s))) := by
    rw [h]; unfold outT; rw [List.getElem?_map, List.getElem?_map, hs]; rfl
  rw [List.getElem?_map] at h1
  obtain ⟨⟨a, b, z⟩, h2, h3⟩ := Option.map_eq_some_iff.1 h1
  cases h3
  exact ⟨z, h2⟩
theorem TQ.gn' {D d b : Nat} {ws : List Rat} {st : Int} (hT : TQ D d b ws st) {v : Rat} (hvb : Mult (840 * D) v ∧ 0 ≤ v ∧ v < ((pw (b + 1) : Int) : Rat)) {s : Rat} (hs : s ∈ ws) : Mult (840 * D) (gn v s) ∧ 0 ≤ gn v s ∧ gn v s < ((pw (b + 1) : Int) : Rat) := by
  obtain ⟨h1, h2, h3⟩ := hT.m s hs
  refine ⟨?_, gn_nn v s, ?_⟩
  · by_cases h : s ≤ v
    · rw [gn_sub h]; exact mult_sub hvb.1 (mult_more h1 840)
    · rw [gn_zero (Rat.not_le.1 h)]; exact mult_int _ 0
  · have := hvb.2.2; have := hvb.2.1; unfold Wk.gn; grind
theorem BalanceTurns_ct (st : Int) (l : List Rt) (x : Option Addr × Nat) (hw : ∀ s ∈ l, RtW s) (hst : 0 ≤ st ∧ st ≤ 18446744073709551615) :
    Ct Tryz.prog 3 #[.int .u64 st, rsV l x] (RS l x) (fun _ : Unit => .bool true) Tt (fun _ _ => True) := by
  obtain ⟨A, c⟩ := x
  refine Ct.start Tryz.func3 rfl rfl (slots_of rfl slots2) (fun D0 w0 => ?_)
  repeat (first | (with_reducible first | refine Pw.seq ?_ | refine Pw.region ?_ | refine Pw.nil ?_ | refine Pw.then_ ?_ | refine Pw.skip ?_ | refine Pw.block ?_ | refine Pw.exit ?_ | refine Pw.inX ?_ | refine Pw.inN ?_ | refine Pw.inR ?_ | refine Pw.thenX ?_ | refine Pw.thenR ?_ | refine Pw.ret ?_) | refine Pw.list (Pw.pure rfl rfl rfl ?_) | refine Pw.inY rfl ?_ | refine Pw.list (Pw.off rfl rfl ?_) | refine Pw.condT rfl ?_ | refine Pw.condF rfl ?_ | refine Pw.list (Pw.box rfl rfl rfl rfl (fun _ => ?_)) | refine Pw.list (Pw.alloc rfl rfl rfl rfl rfl (fun _ => ?_)) | refine Pw.list (Pw.build rfl rfl rfl rfl ?_) | refine Pw.list (Pw.ld rfl inferInstance rfl rfl rfl ?_) | refine Pw.list (Pw.sto rfl rfl inferInstance rfl rfl rfl rfl rfl inferInstance rfl ?_))
  refine Pw.list (Pw.call bawake_ct rfl rfl rfl (by kernel_rfl) rfl rfl (fun w h => trivial) ?_)
  intro _ _
  repeat (first | (with_reducible first | refine Pw.seq ?_ | refine Pw.region ?_ | refine Pw.nil ?_ | refine Pw.then_ ?_ | refine Pw.skip ?_ | refine Pw.block ?_ | refine Pw.exit ?_ | refine Pw.inX ?_ | refine Pw.inN ?_ | refine Pw.inR ?_ | refine Pw.thenX ?_ | refine Pw.thenR ?_ | refine Pw.ret ?_) | refine Pw.list (Pw.pure rfl rfl rfl ?_) | refine Pw.inY rfl ?_ | refine Pw.list (Pw.off rfl rfl ?_) | refine Pw.condT rfl ?_ | refine Pw.condF rfl ?_ | refine Pw.list (Pw.box rfl rfl rfl rfl (fun _ => ?_)) | refine Pw.list (Pw.alloc rfl rfl rfl rfl rfl (fun _ => ?_)) | refine Pw.list (Pw.build rfl rfl rfl rfl ?_) | refine Pw.list (Pw.ld rfl inferInstance rfl rfl rfl ?_) | refine Pw.list (Pw.sto rfl rfl inferInstance rfl rfl rfl rfl rfl inferInstance rfl ?_))
  refine Pw.list (Pw.call (bfew_ct l (A, c)) rfl rfl rfl (by kernel_rfl) rfl rfl (fun w h => (hv w h)) ?_)
  intro r hr
  cases r
  · repeat (first | (with_reducible first | refine Pw.seq ?_ | refine Pw.region ?_ | refine Pw.nil ?_ | refine Pw.then_ ?_ | refine Pw.skip ?_ | refine Pw.block ?_ | refine Pw.exit ?_ | refine Pw.inX ?_ | refine Pw.inN ?_ | refine Pw.inR ?_ | refine Pw.thenX ?_ | refine Pw.thenR ?_ | refine Pw.ret ?_) | refine Pw.list (Pw.pure rfl rfl rfl ?_) | refine Pw.inY rfl ?_ | refine Pw.list (Pw.off rfl rfl ?_) | refine Pw.condT rfl ?_ | refine Pw.condF rfl ?_ | refine Pw.list (Pw.box rfl rfl rfl rfl (fun _ => ?_)) | refine Pw.list (Pw.alloc rfl rfl rfl rfl rfl (fun _ => ?_)) | refine Pw.list (Pw.build rfl rfl rfl rfl ?_) | refine Pw.list (Pw.ld rfl inferInstance rfl rfl rfl ?_) | refine Pw.list (Pw.sto rfl rfl inferInstance rfl rfl rfl rfl rfl inferInstance rfl ?_))
    refine Pw.list (Pw.call bawake_ct rfl rfl rfl (by kernel_rfl) rfl rfl (fun w h => trivial) ?_)
    intro _ _
    repeat (first | (with_reducible first | refine Pw.seq ?_ | refine Pw.region ?_ | refine Pw.nil ?_ | refine Pw.then_ ?_ | refine Pw.skip ?_ | refine Pw.block ?_ | refine Pw.exit ?_ | refine Pw.inX ?_ | refine Pw.inN ?_ | refine Pw.inR ?_ | refine Pw.thenX ?_ | refine Pw.thenR ?_ | refine Pw.ret ?_) | refine Pw.list (Pw.pure rfl rfl rfl ?_) | refine Pw.inY rfl ?_ | refine Pw.list (Pw.off rfl rfl ?_) | refine Pw.condT rfl ?_ | refine Pw.condF rfl ?_ | refine Pw.list (Pw.box rfl rfl rfl rfl (fun _ => ?_)) | refine Pw.list (Pw.alloc rfl rfl rfl rfl rfl (fun _ => ?_)) | refine Pw.list (Pw.build rfl rfl rfl rfl ?_) | refine Pw.list (Pw.ld rfl inferInstance rfl rfl rfl ?_) | refine Pw.list (Pw.sto rfl rfl inferInstance rfl rfl rfl rfl rfl inferInstance rfl ?_))
    exact Pw.ret_ (x := ()) (.tmp rfl .nil) rfl trivial (fun w h => by trivial)
  obtain ⟨hl, hs⟩ := hr rfl
  obtain ⟨D, hT⟩ := tq_few hw hs st hst
  have hlens : ∀ s ∈ l, s.a.length < 1048576 ∧ s.b.length < 1048576 := fun s h => by have := hs s h; omega
  repeat (first | (with_reducible first | refine Pw.seq ?_ | refine Pw.region ?_ | refine Pw.nil ?_ | refine Pw.then_ ?_ | refine Pw.skip ?_ | refine Pw.block ?_ | refine Pw.exit ?_ | refine Pw.inX ?_ | refine Pw.inN ?_ | refine Pw.inR ?_ | refine Pw.thenX ?_ | refine Pw.thenR ?_ | refine Pw.ret ?_) | refine Pw.list (Pw.pure rfl rfl rfl ?_) | refine Pw.inY rfl ?_ | refine Pw.list (Pw.off rfl rfl ?_) | refine Pw.condT rfl ?_ | refine Pw.condF rfl ?_ | refine Pw.list (Pw.box rfl rfl rfl rfl (fun _ => ?_)) | refine Pw.list (Pw.alloc rfl rfl rfl rfl rfl (fun _ => ?_)) | refine Pw.list (Pw.build rfl rfl rfl rfl ?_) | refine Pw.list (Pw.ld rfl inferInstance rfl rfl rfl ?_) | refine Pw.list (Pw.sto rfl rfl inferInstance rfl rfl rfl rfl rfl inferInstance rfl ?_))
  refine Pw.list (Pw.call (btheirs_ct l (A, c) (by omega)) rfl rfl rfl (by kernel_rfl) rfl rfl (fun w h => (hv w h)) ?_)
  intro z _
  repeat (first | (with_reducible first | refine Pw.seq ?_ | refine Pw.region ?_ | refine Pw.nil ?_ | refine Pw.then_ ?_ | refine Pw.skip ?_ | refine Pw.block ?_ | refine Pw.exit ?_ | refine Pw.inX ?_ | refine Pw.inN ?_ | refine Pw.inR ?_ | refine Pw.thenX ?_ | refine Pw.thenR ?_ | refine Pw.ret ?_) | refine Pw.list (Pw.pure rfl rfl rfl ?_) | refine Pw.inY rfl ?_ | refine Pw.list (Pw.off rfl rfl ?_) | refine Pw.condT rfl ?_ | refine Pw.condF rfl ?_ | refine Pw.list (Pw.box rfl rfl rfl rfl (fun _ => ?_)) | refine Pw.list (Pw.alloc rfl rfl rfl rfl rfl (fun _ => ?_)) | refine Pw.list (Pw.build rfl rfl rfl rfl ?_) | refine Pw.list (Pw.ld rfl inferInstance rfl rfl rfl ?_) | refine Pw.list (Pw.sto rfl rfl inferInstance rfl rfl rfl rfl rfl inferInstance rfl ?_))
  refine Pw.list (Pw.call (pTurn_ct st l z hw hlens (by omega) hT) rfl rfl rfl (by kernel_rfl) rfl rfl (fun w h => (hv w h)) ?_)
  rintro ⟨P1, ⟨A1, c1⟩, e1⟩ hP
  obtain ⟨u, hu⟩ : ∃ u, badT l = false → (Lev (l.map rq) st u ∧ (Mult (840 * D) u ∧ 0 ≤ u ∧ u < ((pw (6 + 1) : Int) : Rat))) ∧ P1.map (fun t => (t.a, t.b)) = outT (l.map rq) u := by
    unfold TurnP at hP
    by_cases hb : badT l = true
    · exact ⟨0, fun h => by rw [hb] at h; cases h⟩
    · rw [if_neg hb] at hP
      obtain ⟨_, u, h1, h2, h3⟩ := hP
      exact ⟨u, fun _ => ⟨⟨h1, h2⟩, h3⟩⟩
  repeat (first | (with_reducible first | refine Pw.seq ?_ | refine Pw.region ?_ | refine Pw.nil ?_ | refine Pw.then_ ?_ | refine Pw.skip ?_ | refine Pw.block ?_ | refine Pw.exit ?_ | refine Pw.inX ?_ | refine Pw.inN ?_ | refine Pw.inR ?_ | refine Pw.thenX ?_ | refine Pw.thenR ?_ | refine Pw.ret ?_) | refine Pw.list (Pw.pure rfl rfl rfl ?_) | refine Pw.inY rfl ?_ | refine Pw.list (Pw.off rfl rfl ?_) | refine Pw.condT rfl ?_ | refine Pw.condF rfl ?_ | refine Pw.list (Pw.box rfl rfl rfl rfl (fun _ => ?_)) | refine Pw.list (Pw.alloc rfl rfl rfl rfl rfl (fun _ => ?_)) | refine Pw.list (Pw.build rfl rfl rfl rfl ?_) | refine Pw.list (Pw.ld rfl inferInstance rfl rfl rfl ?_) | refine Pw.list (Pw.sto rfl rfl inferInstance rfl rfl rfl rfl rfl inferInstance rfl ?_))
  refine Pw.list (Pw.call (rTurn_ct st l (A, c) hw hlens (by omega) hT u (fun h => (hu h).1)) rfl rfl rfl (by kernel_rfl) rfl rfl (fun w h => (hv w h)) ?_)
  rintro ⟨P2, ⟨A2, c2⟩, e2⟩ hP2
  unfold TurnP at hP
  unfold RTurnP at hP2
  cases hbad : badT l
  case true =>
    rw [hbad, if_pos rfl] at hP hP2
    obtain ⟨h1, h2⟩ := hP
    obtain ⟨h3, h4⟩ := hP2
    dsimp only at h1 h2 h3 h4
    subst h1 h2 h3 h4
    repeat (first | (with_reducible first | refine Pw.seq ?_ | refine Pw.region ?_ | refine Pw.nil ?_ | refine Pw.then_ ?_ | refine Pw.skip ?_ | refine Pw.block ?_ | refine Pw.exit ?_ | refine Pw.inX ?_ | refine Pw.inN ?_ | refine Pw.inR ?_ | refine Pw.thenX ?_ | refine Pw.thenR ?_ | refine Pw.ret ?_) | refine Pw.list (Pw.pure rfl rfl rfl ?_) | refine Pw.inY rfl ?_ | refine Pw.list (Pw.off rfl rfl ?_) | refine Pw.condT rfl ?_ | refine Pw.condF rfl ?_ | refine Pw.list (Pw.box rfl rfl rfl rfl (fun _ => ?_)) | refine Pw.list (Pw.alloc rfl rfl rfl rfl rfl (fun _ => ?_)) | refine Pw.list (Pw.build rfl rfl rfl rfl ?_) | refine Pw.list (Pw.ld rfl inferInstance rfl rfl rfl ?_) | refine Pw.list (Pw.sto rfl rfl inferInstance rfl rfl rfl rfl rfl inferInstance rfl ?_))
    refine Pw.rounds 2 (Pw.round ?_)
    repeat (first | (with_reducible first | refine Pw.seq ?_ | refine Pw.region ?_ | refine Pw.nil ?_ | refine Pw.then_ ?_ | refine Pw.skip ?_ | refine Pw.block ?_ | refine Pw.exit ?_ | refine Pw.inX ?_ | refine Pw.inN ?_ | refine Pw.inR ?_ | refine Pw.thenX ?_ | refine Pw.thenR ?_ | refine Pw.ret ?_) | refine Pw.list (Pw.pure rfl rfl rfl ?_) | refine Pw.inY rfl ?_ | refine Pw.list (Pw.off rfl rfl ?_) | refine Pw.condT rfl ?_ | refine Pw.condF rfl ?_ | refine Pw.list (Pw.box rfl rfl rfl rfl (fun _ => ?_)) | refine Pw.list (Pw.alloc rfl rfl rfl rfl rfl (fun _ => ?_)) | refine Pw.list (Pw.build rfl rfl rfl rfl ?_) | refine Pw.list (Pw.ld rfl inferInstance rfl rfl rfl ?_) | refine Pw.list (Pw.sto rfl rfl inferInstance rfl rfl rfl rfl rfl inferInstance rfl ?_))
    exact Pw.ret_ (x := ()) (.tmp rfl .nil) rfl trivial (fun w h => by trivial)
  rw [hbad, if_neg (by simp)] at hP hP2
  obtain ⟨h2, _⟩ := hP
  obtain ⟨h4, hP2⟩ := hP2
  dsimp only at h2 h4 hP2
  subst h2 h4
  obtain ⟨⟨hlev, hvb⟩, hP1⟩ := hu hbad
  have hTq := hT hbad
  have hP1l : P1.length = l.length := by have := congrArg List.length hP1; rw [List.length_map] at this; rw [this]; simp [outT]
  have hP2l : P2.length = l.length := by have := congrArg List.length hP2; rw [List.length_map] at this; rw [this]; simp [outT]
  repeat (first | (with_reducible first | refine Pw.seq ?_ | refine Pw.region ?_ | refine Pw.nil ?_ | refine Pw.then_ ?_ | refine Pw.skip ?_ | refine Pw.block ?_ | refine Pw.exit ?_ | refine Pw.inX ?_ | refine Pw.inN ?_ | refine Pw.inR ?_ | refine Pw.thenX ?_ | refine Pw.thenR ?_ | refine Pw.ret ?_) | refine Pw.list (Pw.pure rfl rfl rfl ?_) | refine Pw.inY rfl ?_ | refine Pw.list (Pw.off rfl rfl ?_) | refine Pw.condT rfl ?_ | refine Pw.condF rfl ?_ | refine Pw.list (Pw.box rfl rfl rfl rfl (fun _ => ?_)) | refine Pw.list (Pw.alloc rfl rfl rfl rfl rfl (fun _ => ?_)) | refine Pw.list (Pw.build rfl rfl rfl rfl ?_) | refine Pw.list (Pw.ld rfl inferInstance rfl rfl rfl ?_) | refine Pw.list (Pw.sto rfl rfl inferInstance rfl rfl rfl rfl rfl inferInstance rfl ?_))
  refine Pw.condD rfl (fun c => absurd (show (P1.length : Int) = (P2.length : Int) by rw [hP1l, hP2l]) c) (fun c => ?_)
  repeat (first | (with_reducible first | refine Pw.seq ?_ | refine Pw.region ?_ | refine Pw.nil ?_ | refine Pw.then_ ?_ | refine Pw.skip ?_ | refine Pw.block ?_ | refine Pw.exit ?_ | refine Pw.inX ?_ | refine Pw.inN ?_ | refine Pw.inR ?_ | refine Pw.thenX ?_ | refine Pw.thenR ?_ | refine Pw.ret ?_) | refine Pw.list (Pw.pure rfl rfl rfl ?_) | refine Pw.inY rfl ?_ | refine Pw.list (Pw.off rfl rfl ?_) | refine Pw.condT rfl ?_ | refine Pw.condF rfl ?_ | refine Pw.list (Pw.box rfl rfl rfl rfl (fun _ => ?_)) | refine Pw.list (Pw.alloc rfl rfl rfl rfl rfl (fun _ => ?_)) | refine Pw.list (Pw.build rfl rfl rfl rfl ?_) | refine Pw.list (Pw.ld rfl inferInstance rfl rfl rfl ?_) | refine Pw.list (Pw.sto rfl rfl inferInstance rfl rfl rfl rfl rfl inferInstance rfl ?_))
  refine Pw.facts (G' := [RS P1 (A1, c1), RS P2 (A2, c2)]) (fun w h => allCons (hv w h) (allCons (hv w h) allNil)) ?_
  refine Pw.re (d := 42) (v' := .int .i64 l.length) rfl (by rw [hP1l]) ?_
  refine Pw.loopJ (σ := Nat) (fun i => i ≤ l.length) (fun i => ⟨[(5, rsV P1 (A1, c1)), (7, rsV P2 (A2, c2)), (42, .int .i64 l.length), (43, .int .i64 i)], [], [RS P1 (A1, c1), RS P2 (A2, c2)]⟩) (fun i => l.length - i) 0 (Nat.zero_le _) (Pw.enter ⟨rfl, rfl, rfl, rfl, trivial⟩ (fun w h => h)) ?_
  rintro i hi
  dsimp only at hi ⊢
  repeat (first | (with_reducible first | refine Pw.seq ?_ | refine Pw.region ?_ | refine Pw.nil ?_ | refine Pw.then_ ?_ | refine Pw.skip ?_ | refine Pw.block ?_ | refine Pw.exit ?_ | refine Pw.inX ?_ | refine Pw.inN ?_ | refine Pw.inR ?_ | refine Pw.thenX ?_ | refine Pw.thenR ?_ | refine Pw.ret ?_) | refine Pw.list (Pw.pure rfl rfl rfl ?_) | refine Pw.inY rfl ?_ | refine Pw.list (Pw.off rfl rfl ?_) | refine Pw.condT rfl ?_ | refine Pw.condF rfl ?_ | refine Pw.list (Pw.box rfl rfl rfl rfl (fun _ => ?_)) | refine Pw.list (Pw.alloc rfl rfl rfl rfl rfl (fun _ => ?_)) | refine Pw.list (Pw.build rfl rfl rfl rfl ?_) | refine Pw.list (Pw.ld rfl inferInstance rfl rfl rfl ?_) | refine Pw.list (Pw.sto rfl rfl inferInstance rfl rfl rfl rfl rfl inferInstance rfl ?_))
  refine Pw.condD rfl (fun c3 => ?_) (fun c3 => ?_)
  · obtain ⟨s, hsi, hsm⟩ := get_at (show i < l.length by omega)
    obtain ⟨y1, h1i⟩ := outT_at' hP1 hsi
    obtain ⟨y2, h2i⟩ := outT_at' hP2 hsi
    have hoz := hTq.sz (hTq.gn' hvb (List.mem_map_of_mem (f := rq) hsm))
    obtain ⟨o, ho⟩ : ∃ o, o = gn u (rq s) := ⟨_, rfl⟩
    rw [← ho] at h1i h2i hoz
    have hi0 : 0 ≤ (i : Int) := Int.natCast_nonneg i
    have hi1 : (i : Int) < (P1.length : Int) := by omega
    have hi2 : (i : Int) < (P2.length : Int) := by omega
    refine Pw.use (p := A1.isSome = true) (fun w h => (fact0 h).has hi0 hi1) (fun hA => ?_)
    refine Pw.use (p := A2.isSome = true) (fun w h => (fact1 h).has hi0 hi2) (fun hB => ?_)
    obtain ⟨ad, rfl⟩ := Option.isSome_iff_exists.1 hA
    obtain ⟨bd, rfl⟩ := Option.isSome_iff_exists.1 hB
    refine Pw.more (φ := QW o y1) (fun w h => ((hv w h : RS P1 (some ad, c1) w).at h1i).2.1) ?_
    refine Pw.more (φ := QW o y2) (fun w h => ((hv w h : RS P2 (some bd, c2) w).at h2i).2.1) ?_
    repeat (first | (with_reducible first | refine Pw.seq ?_ | refine Pw.region ?_ | refine Pw.nil ?_ | refine Pw.then_ ?_ | refine Pw.skip ?_ | refine Pw.block ?_ | refine Pw.exit ?_ | refine Pw.inX ?_ | refine Pw.inN ?_ | refine Pw.inR ?_ | refine Pw.thenX ?_ | refine Pw.thenR ?_ | refine Pw.ret ?_) | refine Pw.list (Pw.pure rfl rfl rfl ?_) | refine Pw.inY rfl ?_ | refine Pw.list (Pw.off rfl rfl ?_) | refine Pw.condT rfl ?_ | refine Pw.condF rfl ?_ | refine Pw.list (Pw.box rfl rfl rfl rfl (fun _ => ?_)) | refine Pw.list (Pw.alloc rfl rfl rfl rfl rfl (fun _ => ?_)) | refine Pw.list (Pw.build rfl rfl rfl rfl ?_) | refine Pw.list (Pw.ld rfl inferInstance rfl rfl rfl ?_) | refine Pw.list (Pw.sto rfl rfl inferInstance rfl rfl rfl rfl rfl inferInstance rfl ?_))
    refine Pw.drawnG mixed rfl rfl ?_
    refine Pw.takeP 0 (nb 10 1) rfl rfl rfl rfl (by kernel_rfl) np sf ?_
    refine Pw.takeP 1 (nb 10 3) rfl rfl rfl rfl (by kernel_rfl) np sf ?_
    refine Pw.takeIx 2 (nb 10 7) rfl rfl rfl rfl rfl (by first | assumption | omega) (by first | assumption | omega) rfl rfl (by kernel_rfl) np sf ?_
    refine Pw.takeLA (Rt.mk (qn o) (qd o) y1) 3 (nb 10 15) rfl rfl inferInstance rfl (by first | assumption | (rw [Int.toNat_natCast]; assumption)) (by kernel_rfl) rfl rfl (by kernel_rfl) np sf ?_
    refine Pw.takeP 4 (nb 10 31) rfl rfl rfl rfl (by kernel_rfl) np sf ?_
    refine Pw.takeP 5 (nb 10 63) rfl rfl rfl rfl (by kernel_rfl) np sf ?_
    refine Pw.takeIx 6 (nb 10 127) rfl rfl rfl rfl rfl (by first | assumption | omega) (by first | assumption | omega) rfl rfl (by kernel_rfl) np sf ?_
    refine Pw.takeLA (Rt.mk (qn o) (qd o) y2) 7 (nb 10 255) rfl rfl inferInstance rfl (by first | assumption | (rw [Int.toNat_natCast]; assumption)) (by kernel_rfl) rfl rfl (by kernel_rfl) np sf ?_
    refine Pw.one 8 (nb 10 511) rfl (by kernel_rfl) ?_
    -- call Op.call { callee := Callee.value (Operand.func 9), args := #[Operand.tmp 49, Operand.tmp 53], argTypes := #[37, 40] }
    refine Pw.call (qSame_ct hoz (by omega) y1 y2) rfl rfl rfl (by kernel_rfl) rfl rfl (fun w h => ⟨(hv w h), (hv w h)⟩) ?_
    intro _ _
    refine Pw.held sf ?_
    refine Pw.takeP 9 (nb 10 1023) rfl rfl rfl rfl (by kernel_rfl) np sf ?_
    refine Pw.done (by kernel_rfl) ?_
    repeat (first | (with_reducible first | refine Pw.seq ?_ | refine Pw.region ?_ | refine Pw.nil ?_ | refine Pw.then_ ?_ | refine Pw.skip ?_ | refine Pw.block ?_ | refine Pw.exit ?_ | refine Pw.inX ?_ | refine Pw.inN ?_ | refine Pw.inR ?_ | refine Pw.thenX ?_ | refine Pw.thenR ?_ | refine Pw.ret ?_) | refine Pw.list (Pw.pure rfl rfl rfl ?_) | refine Pw.inY rfl ?_ | refine Pw.list (Pw.off rfl rfl ?_) | refine Pw.condT rfl ?_ | refine Pw.condF rfl ?_ | refine Pw.list (Pw.box rfl rfl rfl rfl (fun _ => ?_)) | refine Pw.list (Pw.alloc rfl rfl rfl rfl rfl (fun _ => ?_)) | refine Pw.list (Pw.build rfl rfl rfl rfl ?_) | refine Pw.list (Pw.ld rfl inferInstance rfl rfl rfl ?_) | refine Pw.list (Pw.sto rfl rfl inferInstance rfl rfl rfl rfl rfl inferInstance rfl ?_))
    refine Pw.re (d := 43) (v' := .int .i64 ((i + 1 : Nat) : Int)) rfl (congrArg (Value.int .i64) (i64s (n := 100000) (by omega) (by omega))) ?_
    exact Pw.again (i + 1) (by omega) (by show l.length - (i + 1) < l.length - i; omega) ⟨rfl, rfl, rfl, rfl, trivial⟩ rfl (fun w h => allCons (hv w h) (allCons (hv w h) allNil))
  · repeat (first | (with_reducible first | refine Pw.seq ?_ | refine Pw.region ?_ | refine Pw.nil ?_ | refine Pw.then_ ?_ | refine Pw.skip ?_ | refine Pw.block ?_ | refine Pw.exit ?_ | refine Pw.inX ?_ | refine Pw.inN ?_ | refine Pw.inR ?_ | refine Pw.thenX ?_ | refine Pw.thenR ?_ | refine Pw.ret ?_) | refine Pw.list (Pw.pure rfl rfl rfl ?_) | refine Pw.inY rfl ?_ | refine Pw.list (Pw.off rfl rfl ?_) | refine Pw.condT rfl ?_ | refine Pw.condF rfl ?_ | refine Pw.list (Pw.box rfl rfl rfl rfl (fun _ => ?_)) | refine Pw.list (Pw.alloc rfl rfl rfl rfl rfl (fun _ => ?_)) | refine Pw.list (Pw.build rfl rfl rfl rfl ?_) | refine Pw.list (Pw.ld rfl inferInstance rfl rfl rfl ?_) | refine Pw.list (Pw.sto rfl rfl inferInstance rfl rfl rfl rfl rfl inferInstance rfl ?_))
    exact Pw.ret_ (x := ()) (.tmp rfl .nil) rfl trivial (fun w h => by trivial)
end Go.Proofs.Wk
