/- Walks and their mathematics, merged. No conditions beyond those written. -/
import Derived.Test.YtbfcmjaomkdpgaaWmPagesCut2
/- Exposures: the laws' helpers. -/
namespace Go.Proofs.Wk
open Go.RowKit
set_option maxRecDepth 100000
set_option maxHeartbeats 1000000
attribute [local irreducible] Pw OpG
set_option linter.unusedVariables false
set_option linter.unusedSimpArgs false
theorem u64_0 : U64 0 := by unfold U64; omega
theorem u64_3 : U64 3 := by unfold U64; omega
theorem u64_4 : U64 4 := by unfold U64; omega
theorem pawake_ct : Ct Try.prog 46 #[] (fun _ => True) (fun _ : Unit => .bool true) Tt (fun _ _ => True) := by
  refine Ct.start Try.func46 rfl rfl (slots_of rfl slots0) (fun D w0 => ?_)
  repeat (first | (with_reducible first | refine Pw.seq ?_ | refine Pw.region ?_ | refine Pw.nil ?_ | refine Pw.then_ ?_ | refine Pw.skip ?_ | refine Pw.block ?_ | refine Pw.exit ?_ | refine Pw.inX ?_ | refine Pw.inN ?_ | refine Pw.inR ?_ | refine Pw.thenX ?_ | refine Pw.thenR ?_ | refine Pw.ret ?_) | refine Pw.list (Pw.pure rfl rfl rfl ?_) | refine Pw.inY rfl ?_ | refine Pw.list (Pw.off rfl rfl ?_) | refine Pw.condT rfl ?_ | refine Pw.condF rfl ?_ | refine Pw.list (Pw.box rfl rfl rfl rfl (fun _ => ?_)) | refine Pw.list (Pw.alloc rfl rfl rfl rfl rfl (fun _ => ?_)) | refine Pw.list (Pw.build rfl rfl rfl rfl ?_) | refine Pw.list (Pw.ld rfl inferInstance rfl rfl rfl ?_) | refine Pw.list (Pw.sto rfl rfl inferInstance rfl rfl rfl rfl rfl inferInstance rfl ?_))
  refine Pw.list (Pw.lit12 rfl rfl rfl rfl rfl rfl rfl rfl rfl (fun g => freeHead ?_))
  repeat (first | (with_reducible first | refine Pw.seq ?_ | refine Pw.region ?_ | refine Pw.nil ?_ | refine Pw.then_ ?_ | refine Pw.skip ?_ | refine Pw.block ?_ | refine Pw.exit ?_ | refine Pw.inX ?_ | refine Pw.inN ?_ | refine Pw.inR ?_ | refine Pw.thenX ?_ | refine Pw.thenR ?_ | refine Pw.ret ?_) | refine Pw.list (Pw.pure rfl rfl rfl ?_) | refine Pw.inY rfl ?_ | refine Pw.list (Pw.off rfl rfl ?_) | refine Pw.condT rfl ?_ | refine Pw.condF rfl ?_ | refine Pw.list (Pw.box rfl rfl rfl rfl (fun _ => ?_)) | refine Pw.list (Pw.alloc rfl rfl rfl rfl rfl (fun _ => ?_)) | refine Pw.list (Pw.build rfl rfl rfl rfl ?_) | refine Pw.list (Pw.ld rfl inferInstance rfl rfl rfl ?_) | refine Pw.list (Pw.sto rfl rfl inferInstance rfl rfl rfl rfl rfl inferInstance rfl ?_))
  have hc := pTotal_ct ⟨0, 0, 3, [(1, 4)], (some ⟨g, 0, none⟩, 1)⟩ ⟨u64_0, u64_3, fun p hp => by rw [List.mem_singleton.1 hp]; exact u64_4⟩ (by simp)
  rw [show totX ⟨0, 0, 3, [(1, 4)], (some ⟨g, 0, none⟩, 1)⟩ = (7, 0) from rfl] at hc
  refine Pw.list (Pw.call hc rfl rfl rfl (by kernel_rfl) rfl rfl (fun w h => rows_of_row (l := [((1 : Int), (4 : Int))]) (ex := []) (fact0 h) (fun _ _ => rfl) (fun _ _ => trivial) (Nat.le_refl _) (by simp [maxLen]) (by omega)) ?_)
  intro _ _
  repeat (first | (with_reducible first | refine Pw.seq ?_ | refine Pw.region ?_ | refine Pw.nil ?_ | refine Pw.then_ ?_ | refine Pw.skip ?_ | refine Pw.block ?_ | refine Pw.exit ?_ | refine Pw.inX ?_ | refine Pw.inN ?_ | refine Pw.inR ?_ | refine Pw.thenX ?_ | refine Pw.thenR ?_ | refine Pw.ret ?_) | refine Pw.list (Pw.pure rfl rfl rfl ?_) | refine Pw.inY rfl ?_ | refine Pw.list (Pw.off rfl rfl ?_) | refine Pw.condT rfl ?_ | refine Pw.condF rfl ?_ | refine Pw.list (Pw.box rfl rfl rfl rfl (fun _ => ?_)) | refine Pw.list (Pw.alloc rfl rfl rfl rfl rfl (fun _ => ?_)) | refine Pw.list (Pw.build rfl rfl rfl rfl ?_) | refine Pw.list (Pw.ld rfl inferInstance rfl rfl rfl ?_) | refine Pw.list (Pw.sto rfl rfl inferInstance rfl rfl rfl rfl rfl inferInstance rfl ?_))
  exact Pw.ret_ (x := ()) (.tmp rfl .nil) rfl trivial (fun w h => by trivial)
theorem few_ct (x : Ex) : Ct Try.prog 47 #[exV x] (fun _ => True) (fun r : Bool => .bool r) (fun r => r = true → x.oth.length ≤ 200) (fun _ _ => True) := by
  refine Ct.start Try.func47 rfl rfl (slots_of rfl slots1) (fun D w0 => ?_)
  repeat (first | (with_reducible first | refine Pw.seq ?_ | refine Pw.region ?_ | refine Pw.nil ?_ | refine Pw.then_ ?_ | refine Pw.skip ?_ | refine Pw.block ?_ | refine Pw.exit ?_ | refine Pw.inX ?_ | refine Pw.inN ?_ | refine Pw.inR ?_ | refine Pw.thenX ?_ | refine Pw.thenR ?_ | refine Pw.ret ?_) | refine Pw.list (Pw.pure rfl rfl rfl ?_) | refine Pw.inY rfl ?_ | refine Pw.list (Pw.off rfl rfl ?_) | refine Pw.condT rfl ?_ | refine Pw.condF rfl ?_ | refine Pw.list (Pw.box rfl rfl rfl rfl (fun _ => freeHead ?_)) | refine Pw.list (Pw.alloc rfl rfl rfl rfl rfl (fun _ => ?_)) | refine Pw.list (Pw.build rfl rfl rfl rfl ?_) | refine Pw.list (Pw.ld rfl inferInstance rfl rfl rfl ?_) | refine Pw.list (Pw.sto rfl rfl inferInstance rfl rfl rfl rfl rfl inferInstance rfl ?_))
  exact Pw.ret_ (x := decide ((x.oth.length : Int) ≤ 200)) (.tmp rfl .nil) rfl (fun e => by have := of_decide_eq_true e; omega) (fun w h => by trivial)
theorem pTheirs_ct (x : Ex) : Ct Try.prog 50 #[exV x] (fun _ => True) (fun _ : Unit => exV x) Tt (fun _ _ => True) := by
  refine Ct.start Try.func50 rfl rfl (slots_of rfl slots1) (fun D w0 => ?_)
  repeat (first | (with_reducible first | refine Pw.seq ?_ | refine Pw.region ?_ | refine Pw.nil ?_ | refine Pw.then_ ?_ | refine Pw.skip ?_ | refine Pw.block ?_ | refine Pw.exit ?_ | refine Pw.inX ?_ | refine Pw.inN ?_ | refine Pw.inR ?_ | refine Pw.thenX ?_ | refine Pw.thenR ?_ | refine Pw.ret ?_) | refine Pw.list (Pw.pure rfl rfl rfl ?_) | refine Pw.inY rfl ?_ | refine Pw.list (Pw.off rfl rfl ?_) | refine Pw.condT rfl ?_ | refine Pw.condF rfl ?_ | refine Pw.list (Pw.box rfl rfl rfl rfl (fun _ => freeHead ?_)) | refine Pw.list (Pw.alloc rfl rfl rfl rfl rfl (fun _ => ?_)) | refine Pw.list (Pw.build rfl rfl rfl rfl ?_) | refine Pw.list (Pw.ld rfl inferInstance rfl rfl rfl ?_) | refine Pw.list (Pw.sto rfl rfl inferInstance rfl rfl rfl rfl rfl inferInstance rfl ?_))
  exact Pw.ret_ (x := ()) (.cell rfl (fun w hs => hs.own _ (.head _)) rfl .nil) rfl trivial (fun w h => by trivial)
theorem rFormed_ct (x : Ex) : Ct Try.prog 48 #[exV x] (exF x) (fun _ : Unit => .bool (formX x)) Tt (fun _ _ => True) := by
  obtain ⟨id, com, own, oth, ⟨A, c⟩⟩ := x
  refine Ct.start Try.func48 rfl rfl (slots_of rfl slots1) (fun D w0 => ?_)
  refine Pw.use (p := oth.length ≤ maxLen) (fun w h => (fact0 h).top) (fun htop => ?_)
  have htop := top63 htop
  repeat (first | (with_reducible first | refine Pw.seq ?_ | refine Pw.region ?_ | refine Pw.nil ?_ | refine Pw.then_ ?_ | refine Pw.skip ?_ | refine Pw.block ?_ | refine Pw.exit ?_ | refine Pw.inX ?_ | refine Pw.inN ?_ | refine Pw.inR ?_ | refine Pw.thenX ?_ | refine Pw.thenR ?_ | refine Pw.ret ?_) | refine Pw.list (Pw.pure rfl rfl rfl ?_) | refine Pw.inY rfl ?_ | refine Pw.list (Pw.off rfl rfl ?_) | refine Pw.condT rfl ?_ | refine Pw.condF rfl ?_)
  refine Pw.list (Pw.box rfl rfl rfl rfl (fun g1 => freeHead ?_))
  repeat (first | (with_reducible first | refine Pw.seq ?_ | refine Pw.region ?_ | refine Pw.nil ?_ | refine Pw.then_ ?_ | refine Pw.skip ?_ | refine Pw.block ?_ | refine Pw.exit ?_ | refine Pw.inX ?_ | refine Pw.inN ?_ | refine Pw.inR ?_ | refine Pw.thenX ?_ | refine Pw.thenR ?_ | refine Pw.ret ?_) | refine Pw.list (Pw.pure rfl rfl rfl ?_) | refine Pw.inY rfl ?_ | refine Pw.list (Pw.off rfl rfl ?_) | refine Pw.condT rfl ?_ | refine Pw.condF rfl ?_ | refine Pw.list (Pw.box rfl rfl rfl rfl (fun _ => ?_)) | refine Pw.list (Pw.alloc rfl rfl rfl rfl rfl (fun _ => ?_)) | refine Pw.list (Pw.build rfl rfl rfl rfl ?_) | refine Pw.list (Pw.ld rfl inferInstance rfl rfl rfl ?_) | refine Pw.list (Pw.sto rfl rfl inferInstance rfl rfl rfl rfl rfl inferInstance rfl ?_))
  refine Pw.loopJ (σ := Nat) (fun i => i ≤ oth.length ∧ ∀ j, j < i → dupAt ⟨id, com, own, oth, (A, c)⟩ j = true) (fun i => ⟨[(1, .pointer (some ⟨g1, 0, none⟩)), (7, .int .i64 oth.length), (8, .int .i64 i)], [], [fun W => W.heap[g1]? = some (row [.int .i64 id, .int .u64 com, .int .u64 own, .slice A oth.length c] 73), PS oth (A, c)]⟩) (fun i => oth.length - i) 0 ⟨Nat.zero_le _, fun j hj => absurd hj (Nat.not_lt_zero j)⟩ (Pw.enter ⟨rfl, rfl, rfl, trivial⟩ (fun w h => allCons (by first | exact fact0 (h) | exact fact0 (allTail (h)) | exact fact0 (allTail (allTail (h))) | exact fact0 (allTail (allTail (allTail (h)))) | exact fact0 (allTail (allTail (allTail (allTail (h))))) | exact fact0 (allTail (allTail (allTail (allTail (allTail (h)))))) | exact fact0 (allTail (allTail (allTail (allTail (allTail (allTail (h))))))) | exact fact0 (allTail (allTail (allTail (allTail (allTail (allTail (allTail (h)))))))) | exact fact0 (allTail (allTail (allTail (allTail (allTail (allTail (allTail (allTail (h))))))))) | exact fact0 (allTail (allTail (allTail (allTail (allTail (allTail (allTail (allTail (allTail (h))))))))))) (allCons (hv w h) allNil))) ?_
  rintro i ⟨hi, hj⟩
  dsimp only at hi hj ⊢
  repeat (first | (with_reducible first | refine Pw.seq ?_ | refine Pw.region ?_ | refine Pw.nil ?_ | refine Pw.then_ ?_ | refine Pw.skip ?_ | refine Pw.block ?_ | refine Pw.exit ?_ | refine Pw.inX ?_ | refine Pw.inN ?_ | refine Pw.inR ?_ | refine Pw.thenX ?_ | refine Pw.thenR ?_ | refine Pw.ret ?_) | refine Pw.list (Pw.pure rfl rfl rfl ?_) | refine Pw.inY rfl ?_ | refine Pw.list (Pw.off rfl rfl ?_) | refine Pw.condT rfl ?_ | refine Pw.condF rfl ?_ | refine Pw.list (Pw.box rfl rfl rfl rfl (fun _ => ?_)) | refine Pw.list (Pw.alloc rfl rfl rfl rfl rfl (fun _ => ?_)) | refine Pw.list (Pw.build rfl rfl rfl rfl ?_) | refine Pw.list (Pw.ld rfl inferInstance rfl rfl rfl ?_) | refine Pw.list (Pw.sto rfl rfl inferInstance rfl rfl rfl rfl rfl inferInstance rfl ?_))
  refine Pw.condD rfl (fun c3 => ?_) (fun c3 => ?_)
  · obtain ⟨p, hp, hm⟩ := get_at (show i < oth.length by omega)
    refine Pw.use (p := A.isSome = true) (fun w h => (fact1 h).has (Int.natCast_nonneg i) c3) (fun hA => ?_)
    obtain ⟨ad, rfl⟩ := Option.isSome_iff_exists.1 hA
    have hbad : ∀ q ∈ id :: (oth.take i).map Prod.fst, p.1 = q → formX ⟨id, com, own, oth, (some ad, c)⟩ = false := fun q hq e => by
      unfold formX
      rw [allB_false (i := i) (by simp only; omega) (by rw [dupAt_eq (p := p) hp]; exact congrArg (fun b => !b) (decide_eq_true (e ▸ hq)))]; rfl
    repeat (first | (with_reducible first | refine Pw.seq ?_ | refine Pw.region ?_ | refine Pw.nil ?_ | refine Pw.then_ ?_ | refine Pw.skip ?_ | refine Pw.block ?_ | refine Pw.exit ?_ | refine Pw.inX ?_ | refine Pw.inN ?_ | refine Pw.inR ?_ | refine Pw.thenX ?_ | refine Pw.thenR ?_ | refine Pw.ret ?_) | refine Pw.list (Pw.pure rfl rfl rfl ?_) | refine Pw.inY rfl ?_ | refine Pw.list (Pw.off rfl rfl ?_) | refine Pw.condT rfl ?_ | refine Pw.condF rfl ?_ | refine Pw.list (Pw.box rfl rfl rfl rfl (fun _ => ?_)) | refine Pw.list (Pw.alloc rfl rfl rfl rfl rfl (fun _ => ?_)) | refine Pw.list (Pw.build rfl rfl rfl rfl ?_) | refine Pw.list (Pw.ld rfl inferInstance rfl rfl rfl ?_) | refine Pw.list (Pw.sto rfl rfl inferInstance rfl rfl rfl rfl rfl inferInstance rfl ?_))
    refine Pw.drawnG mixed rfl rfl ?_
    refine Pw.takeP 0 (nb 9 1) rfl rfl rfl rfl (by kernel_rfl) np sf ?_
    refine Pw.takeF 1 (nb 9 3) rfl rfl inferInstance rfl rfl rfl (by kernel_rfl) np sf ?_
    refine Pw.takeP 2 (nb 9 7) rfl rfl rfl rfl (by kernel_rfl) np sf ?_
    refine Pw.takeIx 3 (nb 9 15) rfl rfl rfl rfl rfl (by first | assumption | omega) (by first | assumption | omega) rfl rfl (by kernel_rfl) np sf ?_
    refine Pw.takeFS 4 (nb 9 31) rfl rfl rfl rfl rfl rfl rfl rfl (by kernel_rfl) np sf ?_
    refine Pw.takeLF p 5 (nb 9 63) rfl rfl inferInstance rfl (by first | assumption | (rw [Int.toNat_natCast]; assumption)) rfl rfl rfl rfl (by kernel_rfl) np sf ?_
    refine Pw.takeP 6 (nb 9 127) rfl rfl rfl rfl (by kernel_rfl) np sf ?_
    refine Pw.takeF 7 (nb 9 255) rfl rfl inferInstance rfl rfl rfl (by kernel_rfl) np sf ?_
    refine Pw.takeP 8 (nb 9 511) rfl rfl rfl rfl (by kernel_rfl) np sf ?_
    refine Pw.done (by kernel_rfl) ?_
    refine Pw.then_ (Pw.condD rfl (fun c4 => ?_) (fun c4 => ?_))
    · repeat (first | (with_reducible first | refine Pw.seq ?_ | refine Pw.region ?_ | refine Pw.nil ?_ | refine Pw.then_ ?_ | refine Pw.skip ?_ | refine Pw.block ?_ | refine Pw.exit ?_ | refine Pw.inX ?_ | refine Pw.inN ?_ | refine Pw.inR ?_ | refine Pw.thenX ?_ | refine Pw.thenR ?_ | refine Pw.ret ?_) | refine Pw.list (Pw.pure rfl rfl rfl ?_) | refine Pw.inY rfl ?_ | refine Pw.list (Pw.off rfl rfl ?_) | refine Pw.condT rfl ?_ | refine Pw.condF rfl ?_ | refine Pw.list (Pw.box rfl rfl rfl rfl (fun _ => ?_)) | refine Pw.list (Pw.alloc rfl rfl rfl rfl rfl (fun _ => ?_)) | refine Pw.list (Pw.build rfl rfl rfl rfl ?_) | refine Pw.list (Pw.ld rfl inferInstance rfl rfl rfl ?_) | refine Pw.list (Pw.sto rfl rfl inferInstance rfl rfl rfl rfl rfl inferInstance rfl ?_))
      exact Pw.ret_ (x := ()) (.tmp rfl .nil) (congrArg Value.bool (hbad id (List.mem_cons_self ..) c4).symm) trivial (fun w h => by trivial)
    repeat (first | (with_reducible first | refine Pw.seq ?_ | refine Pw.region ?_ | refine Pw.nil ?_ | refine Pw.then_ ?_ | refine Pw.skip ?_ | refine Pw.block ?_ | refine Pw.exit ?_ | refine Pw.inX ?_ | refine Pw.inN ?_ | refine Pw.inR ?_ | refine Pw.thenX ?_ | refine Pw.thenR ?_ | refine Pw.ret ?_) | refine Pw.list (Pw.pure rfl rfl rfl ?_) | refine Pw.inY rfl ?_ | refine Pw.list (Pw.off rfl rfl ?_) | refine Pw.condT rfl ?_ | refine Pw.condF rfl ?_ | refine Pw.list (Pw.box rfl rfl rfl rfl (fun _ => ?_)) | refine Pw.list (Pw.alloc rfl rfl rfl rfl rfl (fun _ => ?_)) | refine Pw.list (Pw.build rfl rfl rfl rfl ?_) | refine Pw.list (Pw.ld rfl inferInstance rfl rfl rfl ?_) | refine Pw.list (Pw.sto rfl rfl inferInstance rfl rfl rfl rfl rfl inferInstance rfl ?_))
    refine Pw.loopJ (σ := Nat) (fun k => k ≤ i ∧ ∀ j, j < k → ∀ y, oth[j]? = some y → decide (p.1 = y.1) = false) (fun k => ⟨[(1, .pointer (some ⟨g1, 0, none⟩)), (3, .int .i64 i), (7, .int .i64 oth.length), (8, .int .i64 i), (20, .int .i64 i), (21, .int .i64 k)], [], [fun W => W.heap[g1]? = some (row [.int .i64 id, .int .u64 com, .int .u64 own, .slice (some ad) oth.length c] 73), PS oth (some ad, c)]⟩) (fun k => i - k) 0 ⟨Nat.zero_le _, fun j hj => absurd hj (Nat.not_lt_zero j)⟩ (Pw.enter ⟨rfl, rfl, rfl, rfl, rfl, rfl, trivial⟩ (fun w h => h)) ?_
    rintro k ⟨hk, hkj⟩
    dsimp only at hk hkj ⊢
    repeat (first | (with_reducible first | refine Pw.seq ?_ | refine Pw.region ?_ | refine Pw.nil ?_ | refine Pw.then_ ?_ | refine Pw.skip ?_ | refine Pw.block ?_ | refine Pw.exit ?_ | refine Pw.inX ?_ | refine Pw.inN ?_ | refine Pw.inR ?_ | refine Pw.thenX ?_ | refine Pw.thenR ?_ | refine Pw.ret ?_) | refine Pw.list (Pw.pure rfl rfl rfl ?_) | refine Pw.inY rfl ?_ | refine Pw.list (Pw.off rfl rfl ?_) | refine Pw.condT rfl ?_ | refine Pw.condF rfl ?_ | refine Pw.list (Pw.box rfl rfl rfl rfl (fun _ => ?_)) | refine Pw.list (Pw.alloc rfl rfl rfl rfl rfl (fun _ => ?_)) | refine Pw.list (Pw.build rfl rfl rfl rfl ?_) | refine Pw.list (Pw.ld rfl inferInstance rfl rfl rfl ?_) | refine Pw.list (Pw.sto rfl rfl inferInstance rfl rfl rfl rfl rfl inferInstance rfl ?_))
    refine Pw.condD rfl (fun c5 => ?_) (fun c5 => ?_)
    · obtain ⟨q, hq, hmq⟩ := get_at (show k < oth.length by omega)
      repeat (first | (with_reducible first | refine Pw.seq ?_ | refine Pw.region ?_ | refine Pw.nil ?_ | refine Pw.then_ ?_ | refine Pw.skip ?_ | refine Pw.block ?_ | refine Pw.exit ?_ | refine Pw.inX ?_ | refine Pw.inN ?_ | refine Pw.inR ?_ | refine Pw.thenX ?_ | refine Pw.thenR ?_ | refine Pw.ret ?_) | refine Pw.list (Pw.pure rfl rfl rfl ?_) | refine Pw.inY rfl ?_ | refine Pw.list (Pw.off rfl rfl ?_) | refine Pw.condT rfl ?_ | refine Pw.condF rfl ?_ | refine Pw.list (Pw.box rfl rfl rfl rfl (fun _ => ?_)) | refine Pw.list (Pw.alloc rfl rfl rfl rfl rfl (fun _ => ?_)) | refine Pw.list (Pw.build rfl rfl rfl rfl ?_) | refine Pw.list (Pw.ld rfl inferInstance rfl rfl rfl ?_) | refine Pw.list (Pw.sto rfl rfl inferInstance rfl rfl rfl rfl rfl inferInstance rfl ?_))
      refine Pw.drawnG mixed rfl rfl ?_
      refine Pw.takeP 0 (nb 13 1) rfl rfl rfl rfl (by kernel_rfl) np sf ?_
      refine Pw.takeF 1 (nb 13 3) rfl rfl inferInstance rfl rfl rfl (by kernel_rfl) np sf ?_
      refine Pw.takeP 2 (nb 13 7) rfl rfl rfl rfl (by kernel_rfl) np sf ?_
      refine Pw.takeIx 3 (nb 13 15) rfl rfl rfl rfl rfl (by first | assumption | omega) (by first | assumption | omega) rfl rfl (by kernel_rfl) np sf ?_
      refine Pw.takeFS 4 (nb 13 31) rfl rfl rfl rfl rfl rfl rfl rfl (by kernel_rfl) np sf ?_
      refine Pw.takeLF q 5 (nb 13 63) rfl rfl inferInstance rfl (by first | assumption | (rw [Int.toNat_natCast]; assumption)) rfl rfl rfl rfl (by kernel_rfl) np sf ?_
      refine Pw.takeP 6 (nb 13 127) rfl rfl rfl rfl (by kernel_rfl) np sf ?_
      refine Pw.takeF 7 (nb 13 255) rfl rfl inferInstance rfl rfl rfl (by kernel_rfl) np sf ?_
      refine Pw.takeP 8 (nb 13 511) rfl rfl rfl rfl (by kernel_rfl) np sf ?_
      refine Pw.takeIx 9 (nb 13 1023) rfl rfl rfl rfl rfl (by first | assumption | omega) (by first | assumption | omega) rfl rfl (by kernel_rfl) np sf ?_
      refine Pw.takeFS 10 (nb 13 2047) rfl rfl rfl rfl rfl rfl rfl rfl (by kernel_rfl) np sf ?_
      refine Pw.takeLF p 11 (nb 13 4095) rfl rfl inferInstance rfl (by first | assumption | (rw [Int.toNat_natCast]; assumption)) rfl rfl rfl rfl (by kernel_rfl) np sf ?_
      refine Pw.takeP 12 (nb 13 8191) rfl rfl rfl rfl (by kernel_rfl) np sf ?_
      refine Pw.done (by kernel_rfl) ?_
      refine Pw.then_ (Pw.condD rfl (fun c6 => ?_) (fun c6 => ?_))
      · repeat (first | (with_reducible first | refine Pw.seq ?_ | refine Pw.region ?_ | refine Pw.nil ?_ | refine Pw.then_ ?_ | refine Pw.skip ?_ | refine Pw.block ?_ | refine Pw.exit ?_ | refine Pw.inX ?_ | refine Pw.inN ?_ | refine Pw.inR ?_ | refine Pw.thenX ?_ | refine Pw.thenR ?_ | refine Pw.ret ?_) | refine Pw.list (Pw.pure rfl rfl rfl ?_) | refine Pw.inY rfl ?_ | refine Pw.list (Pw.off rfl rfl ?_) | refine Pw.condT rfl ?_ | refine Pw.condF rfl ?_ | refine Pw.list (Pw.box rfl rfl rfl rfl (fun _ => ?_)) | refine Pw.list (Pw.alloc rfl rfl rfl rfl rfl (fun _ => ?_)) | refine Pw.list (Pw.build rfl rfl rfl rfl ?_) | refine Pw.list (Pw.ld rfl inferInstance rfl rfl rfl ?_) | refine Pw.list (Pw.sto rfl rfl inferInstance rfl rfl rfl rfl rfl inferInstance rfl ?_))
        exact Pw.ret_ (x := ()) (.tmp rfl .nil) (congrArg Value.bool (hbad q.1 (List.mem_cons_of_mem _ (List.mem_map.2 ⟨q, List.mem_of_getElem? (i := k) (by rw [List.getElem?_take_of_lt (by omega)]; exact hq), rfl⟩)) c6.symm).symm) trivial (fun w h => by trivial)
      repeat (first | (with_reducible first | refine Pw.seq ?_ | refine Pw.region ?_ | refine Pw.nil ?_ | refine Pw.then_ ?_ | refine Pw.skip ?_ | refine Pw.block ?_ | refine Pw.exit ?_ | refine Pw.inX ?_ | refine Pw.inN ?_ | refine Pw.inR ?_ | refine Pw.thenX ?_ | refine Pw.thenR ?_ | refine Pw.ret ?_) | refine Pw.list (Pw.pure rfl rfl rfl ?_) | refine Pw.inY rfl ?_ | refine Pw.list (Pw.off rfl rfl ?_) | refine Pw.condT rfl ?_ | refine Pw.condF rfl ?_ | refine Pw.list (Pw.box rfl rfl rfl rfl (fun _ => ?_)) | refine Pw.list (Pw.alloc rfl rfl rfl rfl rfl (fun _ => ?_)) | refine Pw.list (Pw.build rfl rfl rfl rfl ?_) | refine Pw.list (Pw.ld rfl inferInstance rfl rfl rfl ?_) | refine Pw.list (Pw.sto rfl rfl inferInstance rfl rfl rfl rfl rfl inferInstance rfl ?_))
      refine Pw.re (d := 21) (v' := .int .i64 ((k + 1 : Nat) : Int)) rfl (congrArg (Value.int .i64) (i64s (by omega) htop)) ?_
      exact Pw.again (k + 1) ⟨by omega, below_snoc hkj hq (decide_eq_false (fun e => c6 e.symm))⟩ (by show i - (k + 1) < i - k; omega) ⟨rfl, rfl, rfl, rfl, rfl, rfl, trivial⟩ rfl (fun w h => h)
    · obtain rfl : k = i := by omega
      repeat (first | (with_reducible first | refine Pw.seq ?_ | refine Pw.region ?_ | refine Pw.nil ?_ | refine Pw.then_ ?_ | refine Pw.skip ?_ | refine Pw.block ?_ | refine Pw.exit ?_ | refine Pw.inX ?_ | refine Pw.inN ?_ | refine Pw.inR ?_ | refine Pw.thenX ?_ | refine Pw.thenR ?_ | refine Pw.ret ?_) | refine Pw.list (Pw.pure rfl rfl rfl ?_) | refine Pw.inY rfl ?_ | refine Pw.list (Pw.off rfl rfl ?_) | refine Pw.condT rfl ?_ | refine Pw.condF rfl ?_ | refine Pw.list (Pw.box rfl rfl rfl rfl (fun _ => ?_)) | refine Pw.list (Pw.alloc rfl rfl rfl rfl rfl (fun _ => ?_)) | refine Pw.list (Pw.build rfl rfl rfl rfl ?_) | refine Pw.list (Pw.ld rfl inferInstance rfl rfl rfl ?_) | refine Pw.list (Pw.sto rfl rfl inferInstance rfl rfl rfl rfl rfl inferInstance rfl ?_))
      refine Pw.re (d := 8) (v' := .int .i64 ((k + 1 : Nat) : Int)) rfl (congrArg (Value.int .i64) (i64s (by omega) htop)) ?_
      exact Pw.again (k + 1) ⟨by omega, fun j h => by
        rcases Nat.lt_or_ge j k with h' | h'
        · exact hj j h'
        · obtain rfl : j = k := by omega
          rw [dupAt_eq (p := p) hp, decide_eq_false]; · rfl
          intro hm
          rcases List.mem_cons.1 hm with hm | hm
          · exact c4 hm
          · obtain ⟨y, hy, e⟩ := List.mem_map.1 hm
            obtain ⟨t, ht⟩ := List.getElem?_of_mem hy
            have htl := (List.getElem?_eq_some_iff.1 ht).1
            rw [List.length_take] at htl
            rw [List.getElem?_take_of_lt (by omega)] at ht
            have := hkj t (by omega) y ht
            simp [e] at this⟩ (by show oth.length - (k + 1) < oth.length - k; omega) ⟨rfl, rfl, rfl, trivial⟩ rfl (fun w h => h)
  · repeat (first | (with_reducible first | refine Pw.seq ?_ | refine Pw.region ?_ | refine Pw.nil ?_ | refine Pw.then_ ?_ | refine Pw.skip ?_ | refine Pw.block ?_ | refine Pw.exit ?_ | refine Pw.inX ?_ | refine Pw.inN ?_ | refine Pw.inR ?_ | refine Pw.thenX ?_ | refine Pw.thenR ?_ | refine Pw.ret ?_) | refine Pw.list (Pw.pure rfl rfl rfl ?_) | refine Pw.inY rfl ?_ | refine Pw.list (Pw.off rfl rfl ?_) | refine Pw.condT rfl ?_ | refine Pw.condF rfl ?_ | refine Pw.list (Pw.box rfl rfl rfl rfl (fun _ => ?_)) | refine Pw.list (Pw.alloc rfl rfl rfl rfl rfl (fun _ => ?_)) | refine Pw.list (Pw.build rfl rfl rfl rfl ?_) | refine Pw.list (Pw.ld rfl inferInstance rfl rfl rfl ?_) | refine Pw.list (Pw.sto rfl rfl inferInstance rfl rfl rfl rfl rfl inferInstance rfl ?_))
    exact Pw.ret_ (x := ()) (.tmp rfl .nil) (congrArg Value.bool (by unfold formX; rw [allB_true (fun j h => hj j (by simp only at h; omega))]; rfl)) trivial (fun w h => by trivial)
end Go.Proofs.Wk
/- Exposures: plain facts of pages. -/
namespace Go.Proofs.Wk
open Go.Sort Go.RowKit
set_option linter.unusedVariables false
set_option linter.unusedSimpArgs false
theorem chunks_flat_take {k : Nat} (l : List Pt) : ∀ i, ((List.range i).map (chunkAt k l)).flatten = l.take (i * k) := by
  intro i
  induction i with
  | zero => simp
  | succ i ih =>
    rw [List.range_succ, List.map_append, List.flatten_append, ih, Nat.add_mul, Nat.one_mul, List.take_add]
    simp [chunkAt]
theorem chunks_flat {k : Nat} (hk : 0 < k) (l : List Pt) : (chunks k l).flatten = l := by
  unfold chunks
  rw [chunks_flat_take]
  refine List.take_of_length_le ?_
  rcases Nat.lt_or_ge (nCh k l.length * k) l.length with h | h
  · have := (nCh_lt hk).2 h; omega
  · exact h
theorem pages_flat {x : Ex} {k : Nat} (hk : 0 < k) : (pagesS x k).flatten = (x.id, x.own) :: srt x.oth := by
  unfold pagesS
  rw [List.flatten_cons, chunks_flat hk, List.cons_append, List.take_append_drop]
theorem lsum_perm {l m : List Int} (h : l.Perm m) : lsum l = lsum m := by
  induction h with
  | nil => rfl
  | cons _ _ ih => simp only [lsum, ih]
  | swap => simp only [lsum]; omega
  | trans _ _ a b => exact a.trans b
theorem srt_perm (l : List Pt) : (srt l).Perm l := List.mergeSort_perm ..
theorem srt_mem {l : List Pt} {p : Pt} : p ∈ srt l ↔ p ∈ l := (srt_perm l).mem_iff
def psum (ps : List (List Pt)) : Int := lsum (stk ps.flatten)
theorem stk_append (a b : List Pt) : stk (a ++ b) = stk a ++ stk b := by unfold stk; rw [List.map_append]
theorem pages_psum {x : Ex} {k : Nat} (hk : 0 < k) (h : (totX x).2 = 0) : psum (pagesS x k) = (totX x).1 := by
  unfold psum
  rw [pages_flat hk]
  unfold totX sumM at h ⊢
  split at h
  · rename_i hs
    rw [if_pos hs, lsum_snoc]
    show x.own + lsum (stk (srt x.oth)) = _
    have : (stk (srt x.oth)).Perm (stk x.oth) := (srt_perm x.oth).map _
    rw [lsum_perm this]; simp only; omega
  · exact absurd h (by simp)
theorem tot_top {x : Ex} (hx : ExW x) : 0 ≤ (totX x).1 ∧ (totX x).1 ≤ 18446744073709551615 := by
  unfold totX sumM
  have := lsum_nonneg (totX_b hx)
  split <;> (simp only; omega)
theorem pages_u64 {x : Ex} (hx : ExW x) {k : Nat} (hk : 0 < k) : ∀ n ∈ stk (pagesS x k).flatten, U64 n := by
  rw [pages_flat hk]
  intro n hn
  obtain ⟨p, hp, rfl⟩ := List.mem_map.1 hn
  rcases List.mem_cons.1 hp with rfl | hp
  · exact hx.own
  · exact hx.oth p (srt_mem.1 hp)
/-- A part of all is not more than all. -/
theorem psum_part {ps : List (List Pt)} {i : Nat} {p : List Pt} (hu : ∀ n ∈ stk ps.flatten, U64 n) (hi : ps[i]? = some p) (j : Nat) : 0 ≤ psum (ps.take i) + lsum (stk (p.take j)) ∧ psum (ps.take i) + lsum (stk (p.take j)) ≤ psum ps := by
  obtain ⟨hlt, hp⟩ := List.getElem?_eq_some_iff.1 hi
  have e : ps.flatten = (ps.take i).flatten ++ (p.take j ++ (p.drop j ++ (ps.drop (i + 1)).flatten)) := by
    conv => lhs; rw [← List.take_append_drop i ps, List.drop_eq_getElem_cons hlt, hp]
    rw [List.flatten_append, List.flatten_cons, ← List.append_assoc (p.take j), List.take_append_drop]
  have e2 : stk ps.flatten = stk (ps.take i).flatten ++ (stk (p.take j) ++ stk (p.drop j ++ (ps.drop (i + 1)).flatten)) := by rw [e, stk_append, stk_append]
  have e3 : psum ps = psum (ps.take i) + (lsum (stk (p.take j)) + lsum (stk (p.drop j ++ (ps.drop (i + 1)).flatten))) := by unfold psum; rw [e2, lsum_append, lsum_append]
  rw [e2] at hu
  have h1 := lsum_nonneg (l := stk (ps.take i).flatten) (fun n hn => hu n (List.mem_append_left _ hn))
  have h2 := lsum_nonneg (l := stk (p.take j)) (fun n hn => hu n (List.mem_append_right _ (List.mem_append_left _ hn)))
  have h3 := lsum_nonneg (l := stk (p.drop j ++ (ps.drop (i + 1)).flatten)) (fun n hn => hu n (List.mem_append_right _ (List.mem_append_right _ hn)))
  have : psum (ps.take i) = lsum (stk (ps.take i).flatten) := rfl
  omega
theorem psum_snoc {ps : List (List Pt)} {i : Nat} {p : List Pt} (hi : ps[i]? = some p) : psum (ps.take (i + 1)) = psum (ps.take i) + lsum (stk p) := by
  unfold psum; rw [take_snoc hi, List.flatten_append, stk_append, lsum_append]; simp
theorem lsum_stk_snoc {p : List Pt} {j : Nat} {q : Pt} (h : p[j]? = some q) : lsum (stk (p.take (j + 1))) = lsum (stk (p.take j)) + q.2 := by rw [stk_snoc h, lsum_snoc]
theorem nCh_anti {k m n : Nat} (hk : 0 < k) (h : k ≤ m) : nCh m n ≤ nCh k n := by
  rcases Nat.lt_or_ge (nCh k n) (nCh m n) with h1 | h1
  · have h2 := (nCh_lt (by omega)).1 h1
    have h3 := Nat.mul_le_mul_left (nCh k n) h
    have := (nCh_lt hk).2 (show nCh k n * k < n by omega)
    omega
  · exact h1
theorem pages_len {x : Ex} {k : Nat} (hk : 0 < k) : (pagesS x k).length = max 1 (nCh k x.oth.length) := by
  unfold pagesS
  rw [List.length_cons, chunks_len, List.length_drop, srt_len]
  unfold nCh
  rcases Nat.lt_or_ge k x.oth.length with h | h
  · rw [show x.oth.length + k - 1 = (x.oth.length - k + k - 1) + k by omega, Nat.add_div_right _ hk]; generalize (x.oth.length - k + k - 1) / k = q; omega
  · rw [Nat.sub_eq_zero_of_le h, Nat.div_eq_of_lt (by omega)]
    have : (x.oth.length + k - 1) / k < 2 := (Nat.div_lt_iff_lt_mul hk).2 (by omega)
    omega
theorem len_flat {α : Type} {p : List α} : ∀ {L : List (List α)}, p ∈ L → p.length ≤ L.flatten.length
  | y :: r, h => by
    rw [List.flatten_cons, List.length_append]
    rcases List.mem_cons.1 h with rfl | h
    · omega
    · have := len_flat h; omega
theorem quo_nCh {k n : Nat} (hk : 1 ≤ k ∧ k ≤ 40) (hn : n ≤ 200) : wrap64 ((wrap64 (wrap64 ((n : Int) + k) - 1)).tdiv k) = ((nCh k n : Nat) : Int) := by
  have := nCh_le (k := k) (n := n) (by omega)
  rw [wi64 (n := (n : Int) + k) (by omega) (by omega), wi64 (n := (n : Int) + k - 1) (by omega) (by omega), show (n : Int) + k - 1 = ((n + k - 1 : Nat) : Int) by omega]
  rw [← Int.ofNat_tdiv, ← nCh, wi64 (by omega) (by omega)]
theorem fin_eq {L n : Nat} {q : Int} (h : L = max 1 n) (hq : q = (n : Int)) : (L : Int) = if q > 1 then q else 1 := by
  subst hq; split <;> omega
end Go.Proofs.Wk
/- Exposures: plain facts of pages, for PagesWhole. -/
namespace Go.Proofs.Wk
open Go.Sort Go.RowKit
set_option linter.unusedVariables false
set_option linter.unusedSimpArgs false
theorem allB_at {n : Nat} {p : Nat → Bool} (h : allB n p = true) {i : Nat} (hi : i < n) : p i = true := by
  unfold allB at h; exact List.all_eq_true.1 h i (List.mem_range.2 hi)
theorem form_at {x : Ex} (h : formX x = true) {i : Nat} {p : Pt} (hi : x.oth[i]? = some p) : p.1 ∉ x.id :: (x.oth.take i).map Prod.fst := by
  unfold formX at h
  rw [Bool.and_eq_true] at h
  have h1 := allB_at h.1 (List.getElem?_eq_some_iff.1 hi).1
  rw [dupAt_eq hi] at h1
  simpa using h1
theorem form_ne {x : Ex} (h : formX x = true) {p : Pt} (hp : p ∈ x.oth) : p.1 ≠ x.id := by
  obtain ⟨i, hi⟩ := List.getElem?_of_mem hp
  exact fun e => form_at h hi (e ▸ List.mem_cons_self ..)
theorem form_nd {x : Ex} (h : formX x = true) : (x.oth.map Prod.fst).Nodup := by
  rw [List.nodup_iff_pairwise_ne, List.pairwise_iff_getElem]
  intro i j hi hj hij e
  rw [List.length_map] at hi hj
  rw [List.getElem_map, List.getElem_map] at e
  refine form_at h (List.getElem?_eq_getElem hj) (List.mem_cons_of_mem _ (List.mem_map.2 ⟨x.oth[i], ?_, e⟩))
  exact List.mem_of_getElem? (i := i) (by rw [List.getElem?_take_of_lt hij]; exact List.getElem?_eq_getElem hi)
theorem find_of_nd {l : List Pt} (h : (l.map Prod.fst).Nodup) {p : Pt} (hp : p ∈ l) : l.find? (fun q : Pt => decide (q.1 = p.1)) = some p := by
  induction l with
  | nil => cases hp
  | cons q r ih =>
    rw [List.map_cons, List.nodup_cons] at h
    rcases List.mem_cons.1 hp with rfl | hp
    · simp
    · have hne : q.1 ≠ p.1 := fun e => h.1 (e ▸ List.mem_map_of_mem hp)
      rw [List.find?_cons]; simp only [hne, decide_false]
      exact ih h.2 hp
theorem partX_at {x : Ex} (h : formX x = true) {p : Pt} (hp : p ∈ x.oth) : partX x p.1 = p.2 := by
  unfold partX
  rw [if_neg (form_ne h hp), find_of_nd (form_nd h) hp]
def allP (x : Ex) : List Pt := (x.id, x.own) :: srt x.oth
theorem allP_len (x : Ex) : (allP x).length = 1 + x.oth.length := by unfold allP; rw [List.length_cons, srt_len]; omega
theorem allP_part {x : Ex} (h : formX x = true) {i : Nat} {p : Pt} (hi : 1 ≤ i) (hp : (allP x)[i]? = some p) : partX x p.1 = p.2 := by
  obtain ⟨j, rfl⟩ : ∃ j, i = j + 1 := ⟨i - 1, by omega⟩
  unfold allP at hp
  rw [List.getElem?_cons_succ] at hp
  exact partX_at h (srt_mem.1 (List.mem_of_getElem? hp))
theorem allP_ne {x : Ex} (h : formX x = true) {i j : Nat} {p q : Pt} (hj : 1 ≤ j) (hij : j < i) (hp : (allP x)[i]? = some p) (hq : (allP x)[j]? = some q) : ¬ q.1 = p.1 := by
  obtain ⟨j, rfl⟩ : ∃ k, j = k + 1 := ⟨j - 1, by omega⟩
  obtain ⟨i, rfl⟩ : ∃ k, i = k + 1 := ⟨i - 1, by omega⟩
  unfold allP at hp hq
  rw [List.getElem?_cons_succ] at hp hq
  have hnd : ((srt x.oth).map Prod.fst).Nodup := (((srt_perm x.oth).map Prod.fst).nodup_iff).2 (form_nd h)
  rw [List.nodup_iff_pairwise_ne, List.pairwise_iff_getElem] at hnd
  obtain ⟨h1, e1⟩ := List.getElem?_eq_some_iff.1 hp
  obtain ⟨h2, e2⟩ := List.getElem?_eq_some_iff.1 hq
  have := hnd j i (by rw [List.length_map]; exact h2) (by rw [List.length_map]; exact h1) (by omega)
  rw [List.getElem_map, List.getElem_map, e1, e2] at this
  exact this
theorem srt_pw (l : List Pt) : (srt l).Pairwise (fun a b => b.2 ≤ a.2) := by
  have h := List.pairwise_mergeSort (le := fun x y => !(ltOf cfP) y x) (fun a b c h1 h2 => by
    rw [Bool.not_eq_true', ltP, ← Bool.not_eq_true, aheadP_iff] at *; omega) (fun a b => by
    rw [Bool.or_eq_true, Bool.not_eq_true', Bool.not_eq_true', ltP, ltP, ← Bool.not_eq_true, ← Bool.not_eq_true, aheadP_iff, aheadP_iff]; omega) l
  refine h.imp (fun {a b} hab => ?_)
  rw [Bool.not_eq_true', ltP, ← Bool.not_eq_true, aheadP_iff] at hab
  omega
theorem allP_falls {x : Ex} {i : Nat} {p q : Pt} (hi : 1 < i) (hp : (allP x)[i]? = some p) (hq : (allP x)[i - 1]? = some q) : ¬ q.2 < p.2 := by
  obtain ⟨i, rfl⟩ : ∃ k, i = k + 2 := ⟨i - 2, by omega⟩
  unfold allP at hp hq
  rw [show i + 2 - 1 = i + 1 by omega, List.getElem?_cons_succ] at hq
  rw [List.getElem?_cons_succ] at hp
  have h := srt_pw x.oth
  rw [List.pairwise_iff_getElem] at h
  obtain ⟨h1, e1⟩ := List.getElem?_eq_some_iff.1 hp
  obtain ⟨h2, e2⟩ := List.getElem?_eq_some_iff.1 hq
  have := h i (i + 1) h2 h1 (by omega)
  rw [e1, e2] at this
  omega
theorem page_len {x : Ex} {k i : Nat} {p : List Pt} (hk : 0 < k) (h : (pagesS x k)[i]? = some p) : p.length = (if i = 0 then 1 else 0) + min k (x.oth.length - i * k) ∧ (i + 1 < (pagesS x k).length → (i + 1) * k < x.oth.length) ∧ (0 < i → i * k < x.oth.length) := by
  have hl : (pagesS x k).length = 1 + nCh k (x.oth.length - k) := by unfold pagesS; rw [List.length_cons, chunks_len, List.length_drop, srt_len]; omega
  have hlt := (List.getElem?_eq_some_iff.1 h).1
  have h2 : i + 1 < (pagesS x k).length → (i + 1) * k < x.oth.length := fun h => by
    have := (nCh_lt hk).1 (show i < nCh k (x.oth.length - k) by omega)
    rw [Nat.add_mul, Nat.one_mul]; omega
  have h3 : 0 < i → i * k < x.oth.length := fun h => by
    obtain ⟨j, rfl⟩ : ∃ j, i = j + 1 := ⟨i - 1, by omega⟩
    exact h2 |> fun _ => by
      have := (nCh_lt hk).1 (show j < nCh k (x.oth.length - k) by omega)
      rw [Nat.add_mul, Nat.one_mul]; omega
  refine ⟨?_, h2, h3⟩
  unfold pagesS at h
  rcases Nat.eq_zero_or_pos i with rfl | hi
  · simp at h; subst h
    rw [List.length_cons, List.length_take, srt_len]; simp; omega
  · obtain ⟨j, rfl⟩ : ∃ j, i = j + 1 := ⟨i - 1, by omega⟩
    rw [List.getElem?_cons_succ] at h
    unfold chunks at h
    rw [List.getElem?_map] at h
    obtain ⟨y, hy, rfl⟩ := Option.map_eq_some_iff.1 h
    obtain ⟨hj, rfl⟩ := List.getElem?_eq_some_iff.1 hy
    rw [List.getElem_range]
    unfold chunkAt
    rw [List.length_take, List.length_drop, List.length_drop, srt_len, if_neg (by omega), Nat.add_mul, Nat.one_mul]
    omega
end Go.Proofs.Wk
/- The law PagesSum walked. -/
namespace Go.Proofs.Wk
open Go.RowKit
set_option maxRecDepth 100000
set_option maxHeartbeats 2000000
attribute [local irreducible] Pw OpG
set_option linter.unusedVariables false
set_option linter.unusedSimpArgs false
section
variable {P : Program} {w0 : World} {M O : Nat → Prop} {n : Nat} {K : Slots} {L : List Blk} {G : List (World → Prop)} {Q : Exit → Act → World → Prop} {ops : Array Oper} {rest : List Oper} {w : World} {a : Act} {X : Act → World → Prop}
  {d : Nat} {ty : TypeId} {pos : String} {af : Array Edge} {gd : Option (Nat × Bool)} {N : Act → World → Prop} {S : World → Prop} {α : Type} {D : Nat → Prop} {fuel : Nat} {l : Array Bool}
/-- An element of one cell. -/
theorem Pw.loadC {x : Operand} {ad : Addr} {u : TypeId} {sz sz' : Nat} {i : Int} {enc : α → List Value} {held : α → World → Prop} {l : List α} {c : Nat} (y : α) {v : Value} (hx : ev K x = some (.pointer (some (ad.add (i.toNat * sz))))) (hr : RowsAt G (some ad) α enc held sz' l c) (hsz : sz = sz') (hi : l[i.toNat]? = some y) (hv : (enc y)[0]? = some v) (hu : plainB P u = true)
    (hw : wantB K ops gd = some true) (hn : Nat.blt d n = true) (h : Pw w0 M O n ((d, v) :: K) L (held y :: G) N) : Pw w0 M O n K L G (OpG P ops ⟨some d, .load u x, ty, pos, af, gd⟩ N Q) := by
  subst hsz
  exact Pw.more (fun w k => ((hr.h w k).at hi).2.1) (Pw.load1 hx hu (fun w hs => ((hr.h w (allTail hs.all)).at hi).2.2 0 v hv) hw hn h)
end
theorem PagesSum_ct (x : Ex) (hx : ExW x) (s m : Int) (hs : 0 ≤ s ∧ s ≤ 255) (hm : 0 ≤ m ∧ m ≤ 255) : Ct Try.prog 10 #[exV x, .int .u8 s, .int .u8 m] (exF x) (fun _ : Unit => .bool true) Tt (fun _ _ => True) := by
  obtain ⟨s, rfl⟩ : ∃ k : Nat, s = k := ⟨s.toNat, by omega⟩
  obtain ⟨m, rfl⟩ : ∃ k : Nat, m = k := ⟨m.toNat, by omega⟩
  refine Ct.start Try.func10 rfl rfl (slots_of rfl slots3) (fun D w0 => ?_)
  repeat (first | (with_reducible first | refine Pw.seq ?_ | refine Pw.region ?_ | refine Pw.nil ?_ | refine Pw.then_ ?_ | refine Pw.skip ?_ | refine Pw.block ?_ | refine Pw.exit ?_ | refine Pw.inX ?_ | refine Pw.inN ?_ | refine Pw.inR ?_ | refine Pw.thenX ?_ | refine Pw.thenR ?_ | refine Pw.ret ?_) | refine Pw.list (Pw.pure rfl rfl rfl ?_) | refine Pw.inY rfl ?_ | refine Pw.list (Pw.off rfl rfl ?_) | refine Pw.condT rfl ?_ | refine Pw.condF rfl ?_)
  refine Pw.list (Pw.box rfl rfl rfl rfl (fun g1 => freeHead ?_))
  repeat (first | (with_reducible first | refine Pw.seq ?_ | refine Pw.region ?_ | refine Pw.nil ?_ | refine Pw.then_ ?_ | refine Pw.skip ?_ | refine Pw.block ?_ | refine Pw.exit ?_ | refine Pw.inX ?_ | refine Pw.inN ?_ | refine Pw.inR ?_ | refine Pw.thenX ?_ | refine Pw.thenR ?_ | refine Pw.ret ?_) | refine Pw.list (Pw.pure rfl rfl rfl ?_) | refine Pw.inY rfl ?_ | refine Pw.list (Pw.off rfl rfl ?_) | refine Pw.condT rfl ?_ | refine Pw.condF rfl ?_ | refine Pw.list (Pw.box rfl rfl rfl rfl (fun _ => ?_)) | refine Pw.list (Pw.alloc rfl rfl rfl rfl rfl (fun _ => ?_)) | refine Pw.list (Pw.build rfl rfl rfl rfl ?_) | refine Pw.list (Pw.ld rfl inferInstance rfl rfl rfl ?_) | refine Pw.list (Pw.sto rfl rfl inferInstance rfl rfl rfl rfl rfl inferInstance rfl ?_))
  refine Pw.list (Pw.call pawake_ct rfl rfl rfl (by kernel_rfl) rfl rfl (fun w h => trivial) ?_)
  intro _ _
  repeat (first | (with_reducible first | refine Pw.seq ?_ | refine Pw.region ?_ | refine Pw.nil ?_ | refine Pw.then_ ?_ | refine Pw.skip ?_ | refine Pw.block ?_ | refine Pw.exit ?_ | refine Pw.inX ?_ | refine Pw.inN ?_ | refine Pw.inR ?_ | refine Pw.thenX ?_ | refine Pw.thenR ?_ | refine Pw.ret ?_) | refine Pw.list (Pw.pure rfl rfl rfl ?_) | refine Pw.inY rfl ?_ | refine Pw.list (Pw.off rfl rfl ?_) | refine Pw.condT rfl ?_ | refine Pw.condF rfl ?_ | refine Pw.list (Pw.box rfl rfl rfl rfl (fun _ => ?_)) | refine Pw.list (Pw.alloc rfl rfl rfl rfl rfl (fun _ => ?_)) | refine Pw.list (Pw.build rfl rfl rfl rfl ?_) | refine Pw.list (Pw.ld rfl inferInstance rfl rfl rfl ?_) | refine Pw.list (Pw.sto rfl rfl inferInstance rfl rfl rfl rfl rfl inferInstance rfl ?_))
  refine Pw.list (Pw.call (few_ct x) rfl rfl rfl (by kernel_rfl) rfl rfl (fun w h => trivial) ?_)
  intro r hr
  cases r
  · repeat (first | (with_reducible first | refine Pw.seq ?_ | refine Pw.region ?_ | refine Pw.nil ?_ | refine Pw.then_ ?_ | refine Pw.skip ?_ | refine Pw.block ?_ | refine Pw.exit ?_ | refine Pw.inX ?_ | refine Pw.inN ?_ | refine Pw.inR ?_ | refine Pw.thenX ?_ | refine Pw.thenR ?_ | refine Pw.ret ?_) | refine Pw.list (Pw.pure rfl rfl rfl ?_) | refine Pw.inY rfl ?_ | refine Pw.list (Pw.off rfl rfl ?_) | refine Pw.condT rfl ?_ | refine Pw.condF rfl ?_ | refine Pw.list (Pw.box rfl rfl rfl rfl (fun _ => ?_)) | refine Pw.list (Pw.alloc rfl rfl rfl rfl rfl (fun _ => ?_)) | refine Pw.list (Pw.build rfl rfl rfl rfl ?_) | refine Pw.list (Pw.ld rfl inferInstance rfl rfl rfl ?_) | refine Pw.list (Pw.sto rfl rfl inferInstance rfl rfl rfl rfl rfl inferInstance rfl ?_))
    refine Pw.list (Pw.call pawake_ct rfl rfl rfl (by kernel_rfl) rfl rfl (fun w h => trivial) ?_)
    intro _ _
    repeat (first | (with_reducible first | refine Pw.seq ?_ | refine Pw.region ?_ | refine Pw.nil ?_ | refine Pw.then_ ?_ | refine Pw.skip ?_ | refine Pw.block ?_ | refine Pw.exit ?_ | refine Pw.inX ?_ | refine Pw.inN ?_ | refine Pw.inR ?_ | refine Pw.thenX ?_ | refine Pw.thenR ?_ | refine Pw.ret ?_) | refine Pw.list (Pw.pure rfl rfl rfl ?_) | refine Pw.inY rfl ?_ | refine Pw.list (Pw.off rfl rfl ?_) | refine Pw.condT rfl ?_ | refine Pw.condF rfl ?_ | refine Pw.list (Pw.box rfl rfl rfl rfl (fun _ => ?_)) | refine Pw.list (Pw.alloc rfl rfl rfl rfl rfl (fun _ => ?_)) | refine Pw.list (Pw.build rfl rfl rfl rfl ?_) | refine Pw.list (Pw.ld rfl inferInstance rfl rfl rfl ?_) | refine Pw.list (Pw.sto rfl rfl inferInstance rfl rfl rfl rfl rfl inferInstance rfl ?_))
    exact Pw.ret_ (x := ()) (.tmp rfl .nil) rfl trivial (fun w h => by trivial)
  have hl := hr rfl
  repeat (first | (with_reducible first | refine Pw.seq ?_ | refine Pw.region ?_ | refine Pw.nil ?_ | refine Pw.then_ ?_ | refine Pw.skip ?_ | refine Pw.block ?_ | refine Pw.exit ?_ | refine Pw.inX ?_ | refine Pw.inN ?_ | refine Pw.inR ?_ | refine Pw.thenX ?_ | refine Pw.thenR ?_ | refine Pw.ret ?_) | refine Pw.list (Pw.pure rfl rfl rfl ?_) | refine Pw.inY rfl ?_ | refine Pw.list (Pw.off rfl rfl ?_) | refine Pw.condT rfl ?_ | refine Pw.condF rfl ?_ | refine Pw.list (Pw.box rfl rfl rfl rfl (fun _ => ?_)) | refine Pw.list (Pw.alloc rfl rfl rfl rfl rfl (fun _ => ?_)) | refine Pw.list (Pw.build rfl rfl rfl rfl ?_) | refine Pw.list (Pw.ld rfl inferInstance rfl rfl rfl ?_) | refine Pw.list (Pw.sto rfl rfl inferInstance rfl rfl rfl rfl rfl inferInstance rfl ?_))
  refine Pw.list (Pw.call (rFormed_ct x) rfl rfl rfl (by kernel_rfl) rfl rfl (fun w h => (hv w h)) ?_)
  intro _ _
  cases hF : formX x
  · repeat (first | (with_reducible first | refine Pw.seq ?_ | refine Pw.region ?_ | refine Pw.nil ?_ | refine Pw.then_ ?_ | refine Pw.skip ?_ | refine Pw.block ?_ | refine Pw.exit ?_ | refine Pw.inX ?_ | refine Pw.inN ?_ | refine Pw.inR ?_ | refine Pw.thenX ?_ | refine Pw.thenR ?_ | refine Pw.ret ?_) | refine Pw.list (Pw.pure rfl rfl rfl ?_) | refine Pw.inY rfl ?_ | refine Pw.list (Pw.off rfl rfl ?_) | refine Pw.condT rfl ?_ | refine Pw.condF rfl ?_ | refine Pw.list (Pw.box rfl rfl rfl rfl (fun _ => ?_)) | refine Pw.list (Pw.alloc rfl rfl rfl rfl rfl (fun _ => ?_)) | refine Pw.list (Pw.build rfl rfl rfl rfl ?_) | refine Pw.list (Pw.ld rfl inferInstance rfl rfl rfl ?_) | refine Pw.list (Pw.sto rfl rfl inferInstance rfl rfl rfl rfl rfl inferInstance rfl ?_))
    refine Pw.list (Pw.call pawake_ct rfl rfl rfl (by kernel_rfl) rfl rfl (fun w h => trivial) ?_)
    intro _ _
    repeat (first | (with_reducible first | refine Pw.seq ?_ | refine Pw.region ?_ | refine Pw.nil ?_ | refine Pw.then_ ?_ | refine Pw.skip ?_ | refine Pw.block ?_ | refine Pw.exit ?_ | refine Pw.inX ?_ | refine Pw.inN ?_ | refine Pw.inR ?_ | refine Pw.thenX ?_ | refine Pw.thenR ?_ | refine Pw.ret ?_) | refine Pw.list (Pw.pure rfl rfl rfl ?_) | refine Pw.inY rfl ?_ | refine Pw.list (Pw.off rfl rfl ?_) | refine Pw.condT rfl ?_ | refine Pw.condF rfl ?_ | refine Pw.list (Pw.box rfl rfl rfl rfl (fun _ => ?_)) | refine Pw.list (Pw.alloc rfl rfl rfl rfl rfl (fun _ => ?_)) | refine Pw.list (Pw.build rfl rfl rfl rfl ?_) | refine Pw.list (Pw.ld rfl inferInstance rfl rfl rfl ?_) | refine Pw.list (Pw.sto rfl rfl inferInstance rfl rfl rfl rfl rfl inferInstance rfl ?_))
    exact Pw.ret_ (x := ()) (.tmp rfl .nil) rfl trivial (fun w h => by trivial)
  repeat (first | (with_reducible first | refine Pw.seq ?_ | refine Pw.region ?_ | refine Pw.nil ?_ | refine Pw.then_ ?_ | refine Pw.skip ?_ | refine Pw.block ?_ | refine Pw.exit ?_ | refine Pw.inX ?_ | refine Pw.inN ?_ | refine Pw.inR ?_ | refine Pw.thenX ?_ | refine Pw.thenR ?_ | refine Pw.ret ?_) | refine Pw.list (Pw.pure rfl rfl rfl ?_) | refine Pw.inY rfl ?_ | refine Pw.list (Pw.off rfl rfl ?_) | refine Pw.condT rfl ?_ | refine Pw.condF rfl ?_ | refine Pw.list (Pw.box rfl rfl rfl rfl (fun _ => ?_)) | refine Pw.list (Pw.alloc rfl rfl rfl rfl rfl (fun _ => ?_)) | refine Pw.list (Pw.build rfl rfl rfl rfl ?_) | refine Pw.list (Pw.ld rfl inferInstance rfl rfl rfl ?_) | refine Pw.list (Pw.sto rfl rfl inferInstance rfl rfl rfl rfl rfl inferInstance rfl ?_))
  obtain ⟨k, hk⟩ : ∃ k : Nat, k = 1 + s % 40 := ⟨_, rfl⟩
  have hk40 : 1 ≤ k ∧ k ≤ 40 := by omega
  have etm : (s : Int).tmod 40 = ((s % 40 : Nat) : Int) := rfl
  have ek : wrap64 (1 + wrap64 ((s : Int).tmod 40)) = (k : Int) := by rw [etm, wi64 (n := ((s % 40 : Nat) : Int)) (by omega) (by omega), wi64 (by omega) (by omega)]; omega
  refine Pw.re (d := 7) (v' := .int .i64 (k : Int)) rfl (congrArg (Value.int .i64) ek) ?_
  have hn200 : x.oth.length ≤ 200 := hl
  refine Pw.list (Pw.call (pTheirs_ct x) rfl rfl rfl (by kernel_rfl) rfl rfl (fun w h => trivial) ?_)
  intro _ _
  repeat (first | (with_reducible first | refine Pw.seq ?_ | refine Pw.region ?_ | refine Pw.nil ?_ | refine Pw.then_ ?_ | refine Pw.skip ?_ | refine Pw.block ?_ | refine Pw.exit ?_ | refine Pw.inX ?_ | refine Pw.inN ?_ | refine Pw.inR ?_ | refine Pw.thenX ?_ | refine Pw.thenR ?_ | refine Pw.ret ?_) | refine Pw.list (Pw.pure rfl rfl rfl ?_) | refine Pw.inY rfl ?_ | refine Pw.list (Pw.off rfl rfl ?_) | refine Pw.condT rfl ?_ | refine Pw.condF rfl ?_ | refine Pw.list (Pw.box rfl rfl rfl rfl (fun _ => ?_)) | refine Pw.list (Pw.alloc rfl rfl rfl rfl rfl (fun _ => ?_)) | refine Pw.list (Pw.build rfl rfl rfl rfl ?_) | refine Pw.list (Pw.ld rfl inferInstance rfl rfl rfl ?_) | refine Pw.list (Pw.sto rfl rfl inferInstance rfl rfl rfl rfl rfl inferInstance rfl ?_))
  refine Pw.list (Pw.call (pPages_ct x hx (by omega) k (by omega)) rfl rfl rfl (by kernel_rfl) rfl rfl (fun w h => (hv w h)) ?_)
  rintro ⟨P1, A1, c1⟩ hP1
  dsimp only at hP1
  repeat (first | (with_reducible first | refine Pw.seq ?_ | refine Pw.region ?_ | refine Pw.nil ?_ | refine Pw.then_ ?_ | refine Pw.skip ?_ | refine Pw.block ?_ | refine Pw.exit ?_ | refine Pw.inX ?_ | refine Pw.inN ?_ | refine Pw.inR ?_ | refine Pw.thenX ?_ | refine Pw.thenR ?_ | refine Pw.ret ?_) | refine Pw.list (Pw.pure rfl rfl rfl ?_) | refine Pw.inY rfl ?_ | refine Pw.list (Pw.off rfl rfl ?_) | refine Pw.condT rfl ?_ | refine Pw.condF rfl ?_ | refine Pw.list (Pw.box rfl rfl rfl rfl (fun _ => ?_)) | refine Pw.list (Pw.alloc rfl rfl rfl rfl rfl (fun _ => ?_)) | refine Pw.list (Pw.build rfl rfl rfl rfl ?_) | refine Pw.list (Pw.ld rfl inferInstance rfl rfl rfl ?_) | refine Pw.list (Pw.sto rfl rfl inferInstance rfl rfl rfl rfl rfl inferInstance rfl ?_))
  refine Pw.list (Pw.call (pTheirs_ct x) rfl rfl rfl (by kernel_rfl) rfl rfl (fun w h => trivial) ?_)
  intro _ _
  repeat (first | (with_reducible first | refine Pw.seq ?_ | refine Pw.region ?_ | refine Pw.nil ?_ | refine Pw.then_ ?_ | refine Pw.skip ?_ | refine Pw.block ?_ | refine Pw.exit ?_ | refine Pw.inX ?_ | refine Pw.inN ?_ | refine Pw.inR ?_ | refine Pw.thenX ?_ | refine Pw.thenR ?_ | refine Pw.ret ?_) | refine Pw.list (Pw.pure rfl rfl rfl ?_) | refine Pw.inY rfl ?_ | refine Pw.list (Pw.off rfl rfl ?_) | refine Pw.condT rfl ?_ | refine Pw.condF rfl ?_ | refine Pw.list (Pw.box rfl rfl rfl rfl (fun _ => ?_)) | refine Pw.list (Pw.alloc rfl rfl rfl rfl rfl (fun _ => ?_)) | refine Pw.list (Pw.build rfl rfl rfl rfl ?_) | refine Pw.list (Pw.ld rfl inferInstance rfl rfl rfl ?_) | refine Pw.list (Pw.sto rfl rfl inferInstance rfl rfl rfl rfl rfl inferInstance rfl ?_))
  refine Pw.re (d := 47) (v' := .int .i64 ((k + m : Nat) : Int)) rfl (congrArg (Value.int .i64) (by rw [wi64 (n := (m : Int)) (by omega) (by omega), wi64 (by omega) (by omega)]; omega)) ?_
  refine Pw.list (Pw.call (pPages_ct x hx (by omega) ((k + m : Nat) : Int) (by omega)) rfl rfl rfl (by kernel_rfl) rfl rfl (fun w h => (hv w h)) ?_)
  rintro ⟨P2, A2, c2⟩ hP2
  dsimp only at hP2
  repeat (first | (with_reducible first | refine Pw.seq ?_ | refine Pw.region ?_ | refine Pw.nil ?_ | refine Pw.then_ ?_ | refine Pw.skip ?_ | refine Pw.block ?_ | refine Pw.exit ?_ | refine Pw.inX ?_ | refine Pw.inN ?_ | refine Pw.inR ?_ | refine Pw.thenX ?_ | refine Pw.thenR ?_ | refine Pw.ret ?_) | refine Pw.list (Pw.pure rfl rfl rfl ?_) | refine Pw.inY rfl ?_ | refine Pw.list (Pw.off rfl rfl ?_) | refine Pw.condT rfl ?_ | refine Pw.condF rfl ?_ | refine Pw.list (Pw.box rfl rfl rfl rfl (fun _ => ?_)) | refine Pw.list (Pw.alloc rfl rfl rfl rfl rfl (fun _ => ?_)) | refine Pw.list (Pw.build rfl rfl rfl rfl ?_) | refine Pw.list (Pw.ld rfl inferInstance rfl rfl rfl ?_) | refine Pw.list (Pw.sto rfl rfl inferInstance rfl rfl rfl rfl rfl inferInstance rfl ?_))
  refine Pw.list (Pw.call (pTheirs_ct x) rfl rfl rfl (by kernel_rfl) rfl rfl (fun w h => trivial) ?_)
  intro _ _
  repeat (first | (with_reducible first | refine Pw.seq ?_ | refine Pw.region ?_ | refine Pw.nil ?_ | refine Pw.then_ ?_ | refine Pw.skip ?_ | refine Pw.block ?_ | refine Pw.exit ?_ | refine Pw.inX ?_ | refine Pw.inN ?_ | refine Pw.inR ?_ | refine Pw.thenX ?_ | refine Pw.thenR ?_ | refine Pw.ret ?_) | refine Pw.list (Pw.pure rfl rfl rfl ?_) | refine Pw.inY rfl ?_ | refine Pw.list (Pw.off rfl rfl ?_) | refine Pw.condT rfl ?_ | refine Pw.condF rfl ?_ | refine Pw.list (Pw.box rfl rfl rfl rfl (fun _ => ?_)) | refine Pw.list (Pw.alloc rfl rfl rfl rfl rfl (fun _ => ?_)) | refine Pw.list (Pw.build rfl rfl rfl rfl ?_) | refine Pw.list (Pw.ld rfl inferInstance rfl rfl rfl ?_) | refine Pw.list (Pw.sto rfl rfl inferInstance rfl rfl rfl rfl rfl inferInstance rfl ?_))
  refine Pw.list (Pw.call (pTotal_ct x hx (by omega)) rfl rfl rfl (by kernel_rfl) rfl rfl (fun w h => (hv w h)) ?_)
  intro _ _
  repeat (first | (with_reducible first | refine Pw.seq ?_ | refine Pw.region ?_ | refine Pw.nil ?_ | refine Pw.then_ ?_ | refine Pw.skip ?_ | refine Pw.block ?_ | refine Pw.exit ?_ | refine Pw.inX ?_ | refine Pw.inN ?_ | refine Pw.inR ?_ | refine Pw.thenX ?_ | refine Pw.thenR ?_ | refine Pw.ret ?_) | refine Pw.list (Pw.pure rfl rfl rfl ?_) | refine Pw.inY rfl ?_ | refine Pw.list (Pw.off rfl rfl ?_) | refine Pw.condT rfl ?_ | refine Pw.condF rfl ?_ | refine Pw.list (Pw.box rfl rfl rfl rfl (fun _ => ?_)) | refine Pw.list (Pw.alloc rfl rfl rfl rfl rfl (fun _ => ?_)) | refine Pw.list (Pw.build rfl rfl rfl rfl ?_) | refine Pw.list (Pw.ld rfl inferInstance rfl rfl rfl ?_) | refine Pw.list (Pw.sto rfl rfl inferInstance rfl rfl rfl rfl rfl inferInstance rfl ?_))
  by_cases hT : (totX x).2 = 0
  · have e1 : pagesR x k = (pagesS x k, 0) := by unfold pagesR; rw [if_neg (by rw [hF]; simp; omega), if_neg (by omega), Int.toNat_natCast]
    have e2 : pagesR x ((k + m : Nat) : Int) = (pagesS x (k + m), 0) := by unfold pagesR; rw [if_neg (by rw [hF]; simp; omega), if_neg (by omega), Int.toNat_natCast]
    rw [e1] at hP1 ⊢
    rw [e2] at hP2 ⊢
    rw [hT]
    dsimp only at hP1 hP2 ⊢
    have hsz := pages_len (x := x) (k := k) (by omega)
    have hsz2 := pages_len (x := x) (k := k + m) (by omega)
    have hu := pages_u64 hx (k := k) (by omega)
    have hps := pages_psum (k := k) (by omega) hT
    have htt := tot_top hx
    have hmono := nCh_anti (k := k) (m := k + m) (n := x.oth.length) (by omega) (by omega)
    have hcl := nCh_le (k := k) (n := x.oth.length) (by omega)
    have hlen : P1.length = (pagesS x k).length := by rw [← hP1, List.length_map]
    obtain ⟨ps, hps0⟩ : ∃ ps, ps = pagesS x k := ⟨_, rfl⟩
    rw [← hps0] at hP1 hlen hsz hu hps ⊢
    have hn : ps.length ≤ 201 := by omega
    repeat (first | (with_reducible first | refine Pw.seq ?_ | refine Pw.region ?_ | refine Pw.nil ?_ | refine Pw.then_ ?_ | refine Pw.skip ?_ | refine Pw.block ?_ | refine Pw.exit ?_ | refine Pw.inX ?_ | refine Pw.inN ?_ | refine Pw.inR ?_ | refine Pw.thenX ?_ | refine Pw.thenR ?_ | refine Pw.ret ?_) | refine Pw.list (Pw.pure rfl rfl rfl ?_) | refine Pw.inY rfl ?_ | refine Pw.list (Pw.off rfl rfl ?_) | refine Pw.condT rfl ?_ | refine Pw.condF rfl ?_ | refine Pw.list (Pw.box rfl rfl rfl rfl (fun _ => ?_)) | refine Pw.list (Pw.alloc rfl rfl rfl rfl rfl (fun _ => ?_)) | refine Pw.list (Pw.build rfl rfl rfl rfl ?_) | refine Pw.list (Pw.ld rfl inferInstance rfl rfl rfl ?_) | refine Pw.list (Pw.sto rfl rfl inferInstance rfl rfl rfl rfl rfl inferInstance rfl ?_))
    refine Pw.facts (G' := [fun W => W.heap[g1]? = some (row (exL x) 73), PGS P1 (A1, c1)]) (fun w h => allCons (by first | exact fact0 (h) | exact fact0 (allTail (h)) | exact fact0 (allTail (allTail (h))) | exact fact0 (allTail (allTail (allTail (h)))) | exact fact0 (allTail (allTail (allTail (allTail (h))))) | exact fact0 (allTail (allTail (allTail (allTail (allTail (h)))))) | exact fact0 (allTail (allTail (allTail (allTail (allTail (allTail (h))))))) | exact fact0 (allTail (allTail (allTail (allTail (allTail (allTail (allTail (h)))))))) | exact fact0 (allTail (allTail (allTail (allTail (allTail (allTail (allTail (allTail (h))))))))) | exact fact0 (allTail (allTail (allTail (allTail (allTail (allTail (allTail (allTail (allTail (h))))))))))) (allCons (hv w h) allNil)) ?_
    repeat (first | (with_reducible first | refine Pw.seq ?_ | refine Pw.region ?_ | refine Pw.nil ?_ | refine Pw.then_ ?_ | refine Pw.skip ?_ | refine Pw.block ?_ | refine Pw.exit ?_ | refine Pw.inX ?_ | refine Pw.inN ?_ | refine Pw.inR ?_ | refine Pw.thenX ?_ | refine Pw.thenR ?_ | refine Pw.ret ?_) | refine Pw.list (Pw.pure rfl rfl rfl ?_) | refine Pw.inY rfl ?_ | refine Pw.list (Pw.off rfl rfl ?_) | refine Pw.condT rfl ?_ | refine Pw.condF rfl ?_ | refine Pw.list (Pw.box rfl rfl rfl rfl (fun _ => ?_)) | refine Pw.list (Pw.alloc rfl rfl rfl rfl rfl (fun _ => ?_)) | refine Pw.list (Pw.build rfl rfl rfl rfl ?_) | refine Pw.list (Pw.ld rfl inferInstance rfl rfl rfl ?_) | refine Pw.list (Pw.sto rfl rfl inferInstance rfl rfl rfl rfl rfl inferInstance rfl ?_))
    refine Pw.loopJ (σ := Nat) (fun i => i ≤ ps.length) (fun i => ⟨[(3, .pointer (some ⟨g1, 0, none⟩)), (7, .int .i64 k), (8, .slice A1 ps.length c1), (10, .slice A2 (pagesS x (k + m)).length c2), (11, .int .i64 0), (12, .int .u64 (totX x).1), (13, .int .i64 0), (14, .int .u64 (psum (ps.take i))), (68, .int .i64 ps.length), (69, .int .i64 i)], [], [fun W => W.heap[g1]? = some (row (exL x) 73), PGS P1 (A1, c1)]⟩) (fun i => ps.length - i) 0 (Nat.zero_le _) (Pw.enter ⟨rfl, rfl, rfl, rfl, rfl, rfl, rfl, rfl, rfl, rfl, trivial⟩ (fun w h => h)) ?_
    rintro i hi
    dsimp only at hi ⊢
    repeat (first | (with_reducible first | refine Pw.seq ?_ | refine Pw.region ?_ | refine Pw.nil ?_ | refine Pw.then_ ?_ | refine Pw.skip ?_ | refine Pw.block ?_ | refine Pw.exit ?_ | refine Pw.inX ?_ | refine Pw.inN ?_ | refine Pw.inR ?_ | refine Pw.thenX ?_ | refine Pw.thenR ?_ | refine Pw.ret ?_) | refine Pw.list (Pw.pure rfl rfl rfl ?_) | refine Pw.inY rfl ?_ | refine Pw.list (Pw.off rfl rfl ?_) | refine Pw.condT rfl ?_ | refine Pw.condF rfl ?_ | refine Pw.list (Pw.box rfl rfl rfl rfl (fun _ => ?_)) | refine Pw.list (Pw.alloc rfl rfl rfl rfl rfl (fun _ => ?_)) | refine Pw.list (Pw.build rfl rfl rfl rfl ?_) | refine Pw.list (Pw.ld rfl inferInstance rfl rfl rfl ?_) | refine Pw.list (Pw.sto rfl rfl inferInstance rfl rfl rfl rfl rfl inferInstance rfl ?_))
    refine Pw.condD rfl (fun c4 => ?_) (fun c4 => ?_)
    · obtain ⟨⟨p, A3, c5⟩, hp, hpm⟩ := get_at (show i < P1.length by omega)
      have hpi : ps[i]? = some p := by rw [← hP1, List.getElem?_map, hp]; rfl
      have hpl : p.length ≤ 201 := by
        have h1 := List.getElem_mem (List.getElem?_eq_some_iff.1 hpi).1
        rw [(List.getElem?_eq_some_iff.1 hpi).2, hps0] at h1
        have h2 := len_flat h1
        rw [pages_flat (by omega), List.length_cons, srt_len] at h2; omega
      repeat (first | (with_reducible first | refine Pw.seq ?_ | refine Pw.region ?_ | refine Pw.nil ?_ | refine Pw.then_ ?_ | refine Pw.skip ?_ | refine Pw.block ?_ | refine Pw.exit ?_ | refine Pw.inX ?_ | refine Pw.inN ?_ | refine Pw.inR ?_ | refine Pw.thenX ?_ | refine Pw.thenR ?_ | refine Pw.ret ?_) | refine Pw.list (Pw.pure rfl rfl rfl ?_) | refine Pw.inY rfl ?_ | refine Pw.list (Pw.off rfl rfl ?_) | refine Pw.condT rfl ?_ | refine Pw.condF rfl ?_ | refine Pw.list (Pw.box rfl rfl rfl rfl (fun _ => ?_)) | refine Pw.list (Pw.alloc rfl rfl rfl rfl rfl (fun _ => ?_)) | refine Pw.list (Pw.build rfl rfl rfl rfl ?_) | refine Pw.list (Pw.ld rfl inferInstance rfl rfl rfl ?_) | refine Pw.list (Pw.sto rfl rfl inferInstance rfl rfl rfl rfl rfl inferInstance rfl ?_))
      refine Pw.list (Pw.index rfl rfl rfl rfl (Int.natCast_nonneg i) c4 (fun w h => (hv w h : PGS P1 (A1, c1) w).has (Int.natCast_nonneg i) (by omega)) rfl rfl ?_)
      rintro ad rfl
      refine Pw.list (Pw.loadC (p, A3, c5) rfl inferInstance rfl (by rw [Int.toNat_natCast]; exact hp) rfl rfl rfl rfl ?_)
      refine Pw.facts (G' := [fun W => W.heap[g1]? = some (row (exL x) 73), PGS P1 (some ad, c1), PS p (A3, c5)]) (fun w h => allCons (by first | exact fact0 (h) | exact fact0 (allTail (h)) | exact fact0 (allTail (allTail (h))) | exact fact0 (allTail (allTail (allTail (h)))) | exact fact0 (allTail (allTail (allTail (allTail (h))))) | exact fact0 (allTail (allTail (allTail (allTail (allTail (h)))))) | exact fact0 (allTail (allTail (allTail (allTail (allTail (allTail (h))))))) | exact fact0 (allTail (allTail (allTail (allTail (allTail (allTail (allTail (h)))))))) | exact fact0 (allTail (allTail (allTail (allTail (allTail (allTail (allTail (allTail (h))))))))) | exact fact0 (allTail (allTail (allTail (allTail (allTail (allTail (allTail (allTail (allTail (h))))))))))) (allCons (hv w h) (allCons (hv w h : heldPg (p, A3, c5) w) allNil))) ?_
      repeat (first | (with_reducible first | refine Pw.seq ?_ | refine Pw.region ?_ | refine Pw.nil ?_ | refine Pw.then_ ?_ | refine Pw.skip ?_ | refine Pw.block ?_ | refine Pw.exit ?_ | refine Pw.inX ?_ | refine Pw.inN ?_ | refine Pw.inR ?_ | refine Pw.thenX ?_ | refine Pw.thenR ?_ | refine Pw.ret ?_) | refine Pw.list (Pw.pure rfl rfl rfl ?_) | refine Pw.inY rfl ?_ | refine Pw.list (Pw.off rfl rfl ?_) | refine Pw.condT rfl ?_ | refine Pw.condF rfl ?_ | refine Pw.list (Pw.box rfl rfl rfl rfl (fun _ => ?_)) | refine Pw.list (Pw.alloc rfl rfl rfl rfl rfl (fun _ => ?_)) | refine Pw.list (Pw.build rfl rfl rfl rfl ?_) | refine Pw.list (Pw.ld rfl inferInstance rfl rfl rfl ?_) | refine Pw.list (Pw.sto rfl rfl inferInstance rfl rfl rfl rfl rfl inferInstance rfl ?_))
      refine Pw.loopJ (σ := Nat) (fun j => j ≤ p.length) (fun j => ⟨[(3, .pointer (some ⟨g1, 0, none⟩)), (7, .int .i64 k), (8, .slice (some ad) ps.length c1), (10, .slice A2 (pagesS x (k + m)).length c2), (11, .int .i64 0), (12, .int .u64 (totX x).1), (13, .int .i64 0), (14, .int .u64 (psum (ps.take i) + lsum (stk (p.take j)))), (15, .int .i64 i), (68, .int .i64 ps.length), (69, .int .i64 i), (76, .int .i64 p.length), (77, .int .i64 j)], [], [fun W => W.heap[g1]? = some (row (exL x) 73), PGS P1 (some ad, c1), PS p (A3, c5)]⟩) (fun j => p.length - j) 0 (Nat.zero_le _) (Pw.enter ⟨rfl, rfl, rfl, rfl, rfl, rfl, rfl, by simp [lsum, stk]; rfl, rfl, rfl, rfl, rfl, rfl, trivial⟩ (fun w h => h)) ?_
      rintro j hj
      dsimp only at hj ⊢
      repeat (first | (with_reducible first | refine Pw.seq ?_ | refine Pw.region ?_ | refine Pw.nil ?_ | refine Pw.then_ ?_ | refine Pw.skip ?_ | refine Pw.block ?_ | refine Pw.exit ?_ | refine Pw.inX ?_ | refine Pw.inN ?_ | refine Pw.inR ?_ | refine Pw.thenX ?_ | refine Pw.thenR ?_ | refine Pw.ret ?_) | refine Pw.list (Pw.pure rfl rfl rfl ?_) | refine Pw.inY rfl ?_ | refine Pw.list (Pw.off rfl rfl ?_) | refine Pw.condT rfl ?_ | refine Pw.condF rfl ?_ | refine Pw.list (Pw.box rfl rfl rfl rfl (fun _ => ?_)) | refine Pw.list (Pw.alloc rfl rfl rfl rfl rfl (fun _ => ?_)) | refine Pw.list (Pw.build rfl rfl rfl rfl ?_) | refine Pw.list (Pw.ld rfl inferInstance rfl rfl rfl ?_) | refine Pw.list (Pw.sto rfl rfl inferInstance rfl rfl rfl rfl rfl inferInstance rfl ?_))
      refine Pw.condD rfl (fun c6 => ?_) (fun c6 => ?_)
      · obtain ⟨q, hq, hqm⟩ := get_at (show j < p.length by omega)
        have hb := psum_part hu hpi (j + 1)
        rw [lsum_stk_snoc hq] at hb
        repeat (first | (with_reducible first | refine Pw.seq ?_ | refine Pw.region ?_ | refine Pw.nil ?_ | refine Pw.then_ ?_ | refine Pw.skip ?_ | refine Pw.block ?_ | refine Pw.exit ?_ | refine Pw.inX ?_ | refine Pw.inN ?_ | refine Pw.inR ?_ | refine Pw.thenX ?_ | refine Pw.thenR ?_ | refine Pw.ret ?_) | refine Pw.list (Pw.pure rfl rfl rfl ?_) | refine Pw.inY rfl ?_ | refine Pw.list (Pw.off rfl rfl ?_) | refine Pw.condT rfl ?_ | refine Pw.condF rfl ?_ | refine Pw.list (Pw.box rfl rfl rfl rfl (fun _ => ?_)) | refine Pw.list (Pw.alloc rfl rfl rfl rfl rfl (fun _ => ?_)) | refine Pw.list (Pw.build rfl rfl rfl rfl ?_) | refine Pw.list (Pw.ld rfl inferInstance rfl rfl rfl ?_) | refine Pw.list (Pw.sto rfl rfl inferInstance rfl rfl rfl rfl rfl inferInstance rfl ?_))
        refine Pw.list (Pw.indexS rfl rfl rfl rfl (Int.natCast_nonneg i) c4 rfl rfl ?_)
        refine Pw.list (Pw.loadC (p, A3, c5) rfl inferInstance rfl (by rw [Int.toNat_natCast]; exact hp) rfl rfl rfl rfl ?_)
        refine Pw.facts (G' := [fun W => W.heap[g1]? = some (row (exL x) 73), PGS P1 (some ad, c1), PS p (A3, c5)]) (fun w h => allTail h) ?_
        repeat (first | (with_reducible first | refine Pw.seq ?_ | refine Pw.region ?_ | refine Pw.nil ?_ | refine Pw.then_ ?_ | refine Pw.skip ?_ | refine Pw.block ?_ | refine Pw.exit ?_ | refine Pw.inX ?_ | refine Pw.inN ?_ | refine Pw.inR ?_ | refine Pw.thenX ?_ | refine Pw.thenR ?_ | refine Pw.ret ?_) | refine Pw.list (Pw.pure rfl rfl rfl ?_) | refine Pw.inY rfl ?_ | refine Pw.list (Pw.off rfl rfl ?_) | refine Pw.condT rfl ?_ | refine Pw.condF rfl ?_ | refine Pw.list (Pw.box rfl rfl rfl rfl (fun _ => ?_)) | refine Pw.list (Pw.alloc rfl rfl rfl rfl rfl (fun _ => ?_)) | refine Pw.list (Pw.build rfl rfl rfl rfl ?_) | refine Pw.list (Pw.ld rfl inferInstance rfl rfl rfl ?_) | refine Pw.list (Pw.sto rfl rfl inferInstance rfl rfl rfl rfl rfl inferInstance rfl ?_))
        refine Pw.list (Pw.index rfl rfl rfl rfl (Int.natCast_nonneg j) c6 (fun w h => (hv w h : PS p (A3, c5) w).has (Int.natCast_nonneg j) c6) rfl rfl ?_)
        rintro ad2 rfl
        refine Pw.list (Pw.fieldS rfl rfl rfl rfl rfl rfl rfl ?_)
        refine Pw.list (Pw.loadF q rfl inferInstance rfl (by rw [Int.toNat_natCast]; exact hq) rfl rfl rfl rfl ?_)
        repeat (first | (with_reducible first | refine Pw.seq ?_ | refine Pw.region ?_ | refine Pw.nil ?_ | refine Pw.then_ ?_ | refine Pw.skip ?_ | refine Pw.block ?_ | refine Pw.exit ?_ | refine Pw.inX ?_ | refine Pw.inN ?_ | refine Pw.inR ?_ | refine Pw.thenX ?_ | refine Pw.thenR ?_ | refine Pw.ret ?_) | refine Pw.list (Pw.pure rfl rfl rfl ?_) | refine Pw.inY rfl ?_ | refine Pw.list (Pw.off rfl rfl ?_) | refine Pw.condT rfl ?_ | refine Pw.condF rfl ?_ | refine Pw.list (Pw.box rfl rfl rfl rfl (fun _ => ?_)) | refine Pw.list (Pw.alloc rfl rfl rfl rfl rfl (fun _ => ?_)) | refine Pw.list (Pw.build rfl rfl rfl rfl ?_) | refine Pw.list (Pw.ld rfl inferInstance rfl rfl rfl ?_) | refine Pw.list (Pw.sto rfl rfl inferInstance rfl rfl rfl rfl rfl inferInstance rfl ?_))
        refine Pw.re (d := 14) (v' := .int .u64 (psum (ps.take i) + lsum (stk (p.take (j + 1))))) rfl (congrArg (Value.int .u64) (by rw [lsum_stk_snoc hq, wu64]; omega)) ?_
        refine Pw.re (d := 77) (v' := .int .i64 ((j + 1 : Nat) : Int)) rfl (congrArg (Value.int .i64) (i64s (n := 1000) (by omega) (by omega))) ?_
        exact Pw.again (j + 1) (by omega) (by show p.length - (j + 1) < p.length - j; omega) ⟨rfl, rfl, rfl, rfl, rfl, rfl, rfl, rfl, rfl, rfl, rfl, rfl, rfl, trivial⟩ rfl (fun w h => allTail h)
      · obtain rfl : j = p.length := by omega
        repeat (first | (with_reducible first | refine Pw.seq ?_ | refine Pw.region ?_ | refine Pw.nil ?_ | refine Pw.then_ ?_ | refine Pw.skip ?_ | refine Pw.block ?_ | refine Pw.exit ?_ | refine Pw.inX ?_ | refine Pw.inN ?_ | refine Pw.inR ?_ | refine Pw.thenX ?_ | refine Pw.thenR ?_ | refine Pw.ret ?_) | refine Pw.list (Pw.pure rfl rfl rfl ?_) | refine Pw.inY rfl ?_ | refine Pw.list (Pw.off rfl rfl ?_) | refine Pw.condT rfl ?_ | refine Pw.condF rfl ?_ | refine Pw.list (Pw.box rfl rfl rfl rfl (fun _ => ?_)) | refine Pw.list (Pw.alloc rfl rfl rfl rfl rfl (fun _ => ?_)) | refine Pw.list (Pw.build rfl rfl rfl rfl ?_) | refine Pw.list (Pw.ld rfl inferInstance rfl rfl rfl ?_) | refine Pw.list (Pw.sto rfl rfl inferInstance rfl rfl rfl rfl rfl inferInstance rfl ?_))
        refine Pw.re (d := 14) (v' := .int .u64 (psum (ps.take (i + 1)))) rfl (congrArg (Value.int .u64) (by rw [psum_snoc hpi, List.take_length])) ?_
        refine Pw.re (d := 69) (v' := .int .i64 ((i + 1 : Nat) : Int)) rfl (congrArg (Value.int .i64) (i64s (n := 1000) (by omega) (by omega))) ?_
        exact Pw.again (i + 1) (by omega) (by show ps.length - (i + 1) < ps.length - i; omega) ⟨rfl, rfl, rfl, rfl, rfl, rfl, rfl, rfl, rfl, rfl, trivial⟩ rfl (fun w h => allCons (by first | exact fact0 (h) | exact fact0 (allTail (h)) | exact fact0 (allTail (allTail (h))) | exact fact0 (allTail (allTail (allTail (h)))) | exact fact0 (allTail (allTail (allTail (allTail (h))))) | exact fact0 (allTail (allTail (allTail (allTail (allTail (h)))))) | exact fact0 (allTail (allTail (allTail (allTail (allTail (allTail (h))))))) | exact fact0 (allTail (allTail (allTail (allTail (allTail (allTail (allTail (h)))))))) | exact fact0 (allTail (allTail (allTail (allTail (allTail (allTail (allTail (allTail (h))))))))) | exact fact0 (allTail (allTail (allTail (allTail (allTail (allTail (allTail (allTail (allTail (h))))))))))) (allCons (hv w h) allNil))
    · obtain rfl : i = ps.length := by omega
      rw [List.take_length, hps]
      repeat (first | (with_reducible first | refine Pw.seq ?_ | refine Pw.region ?_ | refine Pw.nil ?_ | refine Pw.then_ ?_ | refine Pw.skip ?_ | refine Pw.block ?_ | refine Pw.exit ?_ | refine Pw.inX ?_ | refine Pw.inN ?_ | refine Pw.inR ?_ | refine Pw.thenX ?_ | refine Pw.thenR ?_ | refine Pw.ret ?_) | refine Pw.list (Pw.pure rfl rfl rfl ?_) | refine Pw.inY rfl ?_ | refine Pw.list (Pw.off rfl rfl ?_) | refine Pw.condT rfl ?_ | refine Pw.condF rfl ?_ | refine Pw.list (Pw.box rfl rfl rfl rfl (fun _ => ?_)) | refine Pw.list (Pw.alloc rfl rfl rfl rfl rfl (fun _ => ?_)) | refine Pw.list (Pw.build rfl rfl rfl rfl ?_) | refine Pw.list (Pw.ld rfl inferInstance rfl rfl rfl ?_) | refine Pw.list (Pw.sto rfl rfl inferInstance rfl rfl rfl rfl rfl inferInstance rfl ?_))
      refine Pw.re (d := 103) (v' := .bool true) rfl (congrArg Value.bool (decide_eq_true rfl)) ?_
      repeat (first | (with_reducible first | refine Pw.seq ?_ | refine Pw.region ?_ | refine Pw.nil ?_ | refine Pw.then_ ?_ | refine Pw.skip ?_ | refine Pw.block ?_ | refine Pw.exit ?_ | refine Pw.inX ?_ | refine Pw.inN ?_ | refine Pw.inR ?_ | refine Pw.thenX ?_ | refine Pw.thenR ?_ | refine Pw.ret ?_) | refine Pw.list (Pw.pure rfl rfl rfl ?_) | refine Pw.inY rfl ?_ | refine Pw.list (Pw.off rfl rfl ?_) | refine Pw.condT rfl ?_ | refine Pw.condF rfl ?_ | refine Pw.list (Pw.box rfl rfl rfl rfl (fun _ => ?_)) | refine Pw.list (Pw.alloc rfl rfl rfl rfl rfl (fun _ => ?_)) | refine Pw.list (Pw.build rfl rfl rfl rfl ?_) | refine Pw.list (Pw.ld rfl inferInstance rfl rfl rfl ?_) | refine Pw.list (Pw.sto rfl rfl inferInstance rfl rfl rfl rfl rfl inferInstance rfl ?_))
      refine Pw.re (d := 110) (v' := .bool true) rfl (congrArg Value.bool (decide_eq_true (by omega))) ?_
      repeat (first | (with_reducible first | refine Pw.seq ?_ | refine Pw.region ?_ | refine Pw.nil ?_ | refine Pw.then_ ?_ | refine Pw.skip ?_ | refine Pw.block ?_ | refine Pw.exit ?_ | refine Pw.inX ?_ | refine Pw.inN ?_ | refine Pw.inR ?_ | refine Pw.thenX ?_ | refine Pw.thenR ?_ | refine Pw.ret ?_) | refine Pw.list (Pw.pure rfl rfl rfl ?_) | refine Pw.inY rfl ?_ | refine Pw.list (Pw.off rfl rfl ?_) | refine Pw.condT rfl ?_ | refine Pw.condF rfl ?_ | refine Pw.list (Pw.box rfl rfl rfl rfl (fun _ => ?_)) | refine Pw.list (Pw.alloc rfl rfl rfl rfl rfl (fun _ => ?_)) | refine Pw.list (Pw.build rfl rfl rfl rfl ?_) | refine Pw.list (Pw.ld rfl inferInstance rfl rfl rfl ?_) | refine Pw.list (Pw.sto rfl rfl inferInstance rfl rfl rfl rfl rfl inferInstance rfl ?_))
      refine Pw.list (Pw.quo rfl rfl rfl (by omega) rfl rfl rfl ?_)
      repeat (first | (with_reducible first | refine Pw.seq ?_ | refine Pw.region ?_ | refine Pw.nil ?_ | refine Pw.then_ ?_ | refine Pw.skip ?_ | refine Pw.block ?_ | refine Pw.exit ?_ | refine Pw.inX ?_ | refine Pw.inN ?_ | refine Pw.inR ?_ | refine Pw.thenX ?_ | refine Pw.thenR ?_ | refine Pw.ret ?_) | refine Pw.list (Pw.pure rfl rfl rfl ?_) | refine Pw.inY rfl ?_ | refine Pw.list (Pw.off rfl rfl ?_) | refine Pw.condT rfl ?_ | refine Pw.condF rfl ?_ | refine Pw.list (Pw.box rfl rfl rfl rfl (fun _ => ?_)) | refine Pw.list (Pw.alloc rfl rfl rfl rfl rfl (fun _ => ?_)) | refine Pw.list (Pw.build rfl rfl rfl rfl ?_) | refine Pw.list (Pw.ld rfl inferInstance rfl rfl rfl ?_) | refine Pw.list (Pw.sto rfl rfl inferInstance rfl rfl rfl rfl rfl inferInstance rfl ?_))
      refine Pw.list (Pw.bmax rfl rfl rfl rfl ?_)
      repeat (first | (with_reducible first | refine Pw.seq ?_ | refine Pw.region ?_ | refine Pw.nil ?_ | refine Pw.then_ ?_ | refine Pw.skip ?_ | refine Pw.block ?_ | refine Pw.exit ?_ | refine Pw.inX ?_ | refine Pw.inN ?_ | refine Pw.inR ?_ | refine Pw.thenX ?_ | refine Pw.thenR ?_ | refine Pw.ret ?_) | refine Pw.list (Pw.pure rfl rfl rfl ?_) | refine Pw.inY rfl ?_ | refine Pw.list (Pw.off rfl rfl ?_) | refine Pw.condT rfl ?_ | refine Pw.condF rfl ?_ | refine Pw.list (Pw.box rfl rfl rfl rfl (fun _ => ?_)) | refine Pw.list (Pw.alloc rfl rfl rfl rfl rfl (fun _ => ?_)) | refine Pw.list (Pw.build rfl rfl rfl rfl ?_) | refine Pw.list (Pw.ld rfl inferInstance rfl rfl rfl ?_) | refine Pw.list (Pw.sto rfl rfl inferInstance rfl rfl rfl rfl rfl inferInstance rfl ?_))
      exact Pw.ret_ (x := ()) (.tmp rfl .nil) (congrArg Value.bool (decide_eq_true (fin_eq hsz (quo_nCh hk40 hn200)))) trivial (fun w h => by trivial)
  · have e1 : pagesR x k = ([], (totX x).2) := by unfold pagesR; rw [if_neg (by rw [hF]; simp; omega), if_pos hT]
    have e2 : pagesR x ((k + m : Nat) : Int) = ([], (totX x).2) := by unfold pagesR; rw [if_neg (by rw [hF]; simp; omega), if_pos hT]
    rw [e1, e2]
    repeat (first | (with_reducible first | refine Pw.seq ?_ | refine Pw.region ?_ | refine Pw.nil ?_ | refine Pw.then_ ?_ | refine Pw.skip ?_ | refine Pw.block ?_ | refine Pw.exit ?_ | refine Pw.inX ?_ | refine Pw.inN ?_ | refine Pw.inR ?_ | refine Pw.thenX ?_ | refine Pw.thenR ?_ | refine Pw.ret ?_) | refine Pw.list (Pw.pure rfl rfl rfl ?_) | refine Pw.inY rfl ?_ | refine Pw.list (Pw.off rfl rfl ?_) | refine Pw.condT rfl ?_ | refine Pw.condF rfl ?_ | refine Pw.list (Pw.box rfl rfl rfl rfl (fun _ => ?_)) | refine Pw.list (Pw.alloc rfl rfl rfl rfl rfl (fun _ => ?_)) | refine Pw.list (Pw.build rfl rfl rfl rfl ?_) | refine Pw.list (Pw.ld rfl inferInstance rfl rfl rfl ?_) | refine Pw.list (Pw.sto rfl rfl inferInstance rfl rfl rfl rfl rfl inferInstance rfl ?_))
    refine Pw.condD rfl (fun c3 => ?_) (fun c3 => absurd hT c3)
    repeat (first | (with_reducible first | refine Pw.seq ?_ | refine Pw.region ?_ | refine Pw.nil ?_ | refine Pw.then_ ?_ | refine Pw.skip ?_ | refine Pw.block ?_ | refine Pw.exit ?_ | refine Pw.inX ?_ | refine Pw.inN ?_ | refine Pw.inR ?_ | refine Pw.thenX ?_ | refine Pw.thenR ?_ | refine Pw.ret ?_) | refine Pw.list (Pw.pure rfl rfl rfl ?_) | refine Pw.inY rfl ?_ | refine Pw.list (Pw.off rfl rfl ?_) | refine Pw.condT rfl ?_ | refine Pw.condF rfl ?_ | refine Pw.list (Pw.box rfl rfl rfl rfl (fun _ => ?_)) | refine Pw.list (Pw.alloc rfl rfl rfl rfl rfl (fun _ => ?_)) | refine Pw.list (Pw.build rfl rfl rfl rfl ?_) | refine Pw.list (Pw.ld rfl inferInstance rfl rfl rfl ?_) | refine Pw.list (Pw.sto rfl rfl inferInstance rfl rfl rfl rfl rfl inferInstance rfl ?_))
    refine Pw.re (d := 62) (v' := .bool true) rfl (congrArg Value.bool (decide_eq_true rfl)) ?_
    repeat (first | (with_reducible first | refine Pw.seq ?_ | refine Pw.region ?_ | refine Pw.nil ?_ | refine Pw.then_ ?_ | refine Pw.skip ?_ | refine Pw.block ?_ | refine Pw.exit ?_ | refine Pw.inX ?_ | refine Pw.inN ?_ | refine Pw.inR ?_ | refine Pw.thenX ?_ | refine Pw.thenR ?_ | refine Pw.ret ?_) | refine Pw.list (Pw.pure rfl rfl rfl ?_) | refine Pw.inY rfl ?_ | refine Pw.list (Pw.off rfl rfl ?_) | refine Pw.condT rfl ?_ | refine Pw.condF rfl ?_ | refine Pw.list (Pw.box rfl rfl rfl rfl (fun _ => ?_)) | refine Pw.list (Pw.alloc rfl rfl rfl rfl rfl (fun _ => ?_)) | refine Pw.list (Pw.build rfl rfl rfl rfl ?_) | refine Pw.list (Pw.ld rfl inferInstance rfl rfl rfl ?_) | refine Pw.list (Pw.sto rfl rfl inferInstance rfl rfl rfl rfl rfl inferInstance rfl ?_))
    exact Pw.ret_ (x := ()) (.tmp rfl .nil) (congrArg Value.bool (decide_eq_true rfl)) trivial (fun w h => by trivial)
end Go.Proofs.Wk
/- Exposures: the document's part. -/
namespace Go.Proofs.Wk
open Go.RowKit
set_option maxRecDepth 100000
set_option maxHeartbeats 1000000
attribute [local irreducible] Pw OpG
set_option linter.unusedVariables false
set_option linter.unusedSimpArgs false
theorem find_hit {l : List Pt} {k : Int} {i : Nat} {p : Pt} (hi : l[i]? = some p) (hp : p.1 = k) (hj : ∀ j, j < i → ∀ y, l[j]? = some y → decide (y.1 = k) = false) : l.find? (fun q : Pt => decide (q.1 = k)) = some p := by
  rcases ixI_cases (fun q : Pt => decide (q.1 = k)) l with ⟨h1, h2⟩ | ⟨j, y, h1, h2, h3, h4⟩
  · have := ixI_hit (p := fun q : Pt => decide (q.1 = k)) hi (decide_eq_true hp) hj
    omega
  · have := ixI_hit (p := fun q : Pt => decide (q.1 = k)) hi (decide_eq_true hp) hj
    obtain rfl : j = i := by omega
    rw [hi] at h2; cases h2; exact h4
theorem find_miss {l : List Pt} {k : Int} (hj : ∀ (j : Nat) (y : Pt), l[j]? = some y → decide (y.1 = k) = false) : l.find? (fun q : Pt => decide (q.1 = k)) = none := by
  rw [List.find?_eq_none]
  intro y hy e
  obtain ⟨j, h⟩ := List.getElem?_of_mem hy
  rw [hj j y h] at e; cases e
theorem rPart_ct (x : Ex) (k : Int) : Ct Try.prog 51 #[exV x, .int .i64 k] (exF x) (fun _ : Unit => .int .u64 (partX x k)) Tt (fun _ _ => True) := by
  obtain ⟨id, com, own, oth, ⟨A, c⟩⟩ := x
  refine Ct.start Try.func51 rfl rfl (slots_of rfl slots2) (fun D w0 => ?_)
  refine Pw.use (p := oth.length ≤ maxLen) (fun w h => (fact0 h).top) (fun htop => ?_)
  have htop := top63 htop
  repeat (first | (with_reducible first | refine Pw.seq ?_ | refine Pw.region ?_ | refine Pw.nil ?_ | refine Pw.then_ ?_ | refine Pw.skip ?_ | refine Pw.block ?_ | refine Pw.exit ?_ | refine Pw.inX ?_ | refine Pw.inN ?_ | refine Pw.inR ?_ | refine Pw.thenX ?_ | refine Pw.thenR ?_ | refine Pw.ret ?_) | refine Pw.list (Pw.pure rfl rfl rfl ?_) | refine Pw.inY rfl ?_ | refine Pw.list (Pw.off rfl rfl ?_) | refine Pw.condT rfl ?_ | refine Pw.condF rfl ?_)
  refine Pw.list (Pw.box rfl rfl rfl rfl (fun g1 => freeHead ?_))
  repeat (first | (with_reducible first | refine Pw.seq ?_ | refine Pw.region ?_ | refine Pw.nil ?_ | refine Pw.then_ ?_ | refine Pw.skip ?_ | refine Pw.block ?_ | refine Pw.exit ?_ | refine Pw.inX ?_ | refine Pw.inN ?_ | refine Pw.inR ?_ | refine Pw.thenX ?_ | refine Pw.thenR ?_ | refine Pw.ret ?_) | refine Pw.list (Pw.pure rfl rfl rfl ?_) | refine Pw.inY rfl ?_ | refine Pw.list (Pw.off rfl rfl ?_) | refine Pw.condT rfl ?_ | refine Pw.condF rfl ?_ | refine Pw.list (Pw.box rfl rfl rfl rfl (fun _ => ?_)) | refine Pw.list (Pw.alloc rfl rfl rfl rfl rfl (fun _ => ?_)) | refine Pw.list (Pw.build rfl rfl rfl rfl ?_) | refine Pw.list (Pw.ld rfl inferInstance rfl rfl rfl ?_) | refine Pw.list (Pw.sto rfl rfl inferInstance rfl rfl rfl rfl rfl inferInstance rfl ?_))
  refine Pw.condD rfl (fun c1 => ?_) (fun c1 => ?_)
  · repeat (first | (with_reducible first | refine Pw.seq ?_ | refine Pw.region ?_ | refine Pw.nil ?_ | refine Pw.then_ ?_ | refine Pw.skip ?_ | refine Pw.block ?_ | refine Pw.exit ?_ | refine Pw.inX ?_ | refine Pw.inN ?_ | refine Pw.inR ?_ | refine Pw.thenX ?_ | refine Pw.thenR ?_ | refine Pw.ret ?_) | refine Pw.list (Pw.pure rfl rfl rfl ?_) | refine Pw.inY rfl ?_ | refine Pw.list (Pw.off rfl rfl ?_) | refine Pw.condT rfl ?_ | refine Pw.condF rfl ?_ | refine Pw.list (Pw.box rfl rfl rfl rfl (fun _ => ?_)) | refine Pw.list (Pw.alloc rfl rfl rfl rfl rfl (fun _ => ?_)) | refine Pw.list (Pw.build rfl rfl rfl rfl ?_) | refine Pw.list (Pw.ld rfl inferInstance rfl rfl rfl ?_) | refine Pw.list (Pw.sto rfl rfl inferInstance rfl rfl rfl rfl rfl inferInstance rfl ?_))
    exact Pw.ret_ (x := ()) (.tmp rfl .nil) (congrArg (Value.int .u64) (if_pos c1).symm) trivial (fun w h => by trivial)
  repeat (first | (with_reducible first | refine Pw.seq ?_ | refine Pw.region ?_ | refine Pw.nil ?_ | refine Pw.then_ ?_ | refine Pw.skip ?_ | refine Pw.block ?_ | refine Pw.exit ?_ | refine Pw.inX ?_ | refine Pw.inN ?_ | refine Pw.inR ?_ | refine Pw.thenX ?_ | refine Pw.thenR ?_ | refine Pw.ret ?_) | refine Pw.list (Pw.pure rfl rfl rfl ?_) | refine Pw.inY rfl ?_ | refine Pw.list (Pw.off rfl rfl ?_) | refine Pw.condT rfl ?_ | refine Pw.condF rfl ?_ | refine Pw.list (Pw.box rfl rfl rfl rfl (fun _ => ?_)) | refine Pw.list (Pw.alloc rfl rfl rfl rfl rfl (fun _ => ?_)) | refine Pw.list (Pw.build rfl rfl rfl rfl ?_) | refine Pw.list (Pw.ld rfl inferInstance rfl rfl rfl ?_) | refine Pw.list (Pw.sto rfl rfl inferInstance rfl rfl rfl rfl rfl inferInstance rfl ?_))
  refine Pw.loopJ (σ := Nat) (fun i => i ≤ oth.length ∧ ∀ j, j < i → ∀ y, oth[j]? = some y → decide (y.1 = k) = false) (fun i => ⟨[(1, .int .i64 k), (2, .pointer (some ⟨g1, 0, none⟩)), (14, .int .i64 oth.length), (15, .int .i64 i)], [], [fun W => W.heap[g1]? = some (row [.int .i64 id, .int .u64 com, .int .u64 own, .slice A oth.length c] 73), PS oth (A, c)]⟩) (fun i => oth.length - i) 0 ⟨Nat.zero_le _, fun j hj => absurd hj (Nat.not_lt_zero j)⟩ (Pw.enter ⟨rfl, rfl, rfl, rfl, trivial⟩ (fun w h => allCons (by first | exact fact0 (h) | exact fact0 (allTail (h)) | exact fact0 (allTail (allTail (h))) | exact fact0 (allTail (allTail (allTail (h)))) | exact fact0 (allTail (allTail (allTail (allTail (h))))) | exact fact0 (allTail (allTail (allTail (allTail (allTail (h)))))) | exact fact0 (allTail (allTail (allTail (allTail (allTail (allTail (h))))))) | exact fact0 (allTail (allTail (allTail (allTail (allTail (allTail (allTail (h)))))))) | exact fact0 (allTail (allTail (allTail (allTail (allTail (allTail (allTail (allTail (h))))))))) | exact fact0 (allTail (allTail (allTail (allTail (allTail (allTail (allTail (allTail (allTail (h))))))))))) (allCons (hv w h) allNil))) ?_
  rintro i ⟨hi, hj⟩
  dsimp only at hi hj ⊢
  repeat (first | (with_reducible first | refine Pw.seq ?_ | refine Pw.region ?_ | refine Pw.nil ?_ | refine Pw.then_ ?_ | refine Pw.skip ?_ | refine Pw.block ?_ | refine Pw.exit ?_ | refine Pw.inX ?_ | refine Pw.inN ?_ | refine Pw.inR ?_ | refine Pw.thenX ?_ | refine Pw.thenR ?_ | refine Pw.ret ?_) | refine Pw.list (Pw.pure rfl rfl rfl ?_) | refine Pw.inY rfl ?_ | refine Pw.list (Pw.off rfl rfl ?_) | refine Pw.condT rfl ?_ | refine Pw.condF rfl ?_ | refine Pw.list (Pw.box rfl rfl rfl rfl (fun _ => ?_)) | refine Pw.list (Pw.alloc rfl rfl rfl rfl rfl (fun _ => ?_)) | refine Pw.list (Pw.build rfl rfl rfl rfl ?_) | refine Pw.list (Pw.ld rfl inferInstance rfl rfl rfl ?_) | refine Pw.list (Pw.sto rfl rfl inferInstance rfl rfl rfl rfl rfl inferInstance rfl ?_))
  refine Pw.condD rfl (fun c3 => ?_) (fun c3 => ?_)
  · obtain ⟨p, hp, hm⟩ := get_at (show i < oth.length by omega)
    repeat (first | (with_reducible first | refine Pw.seq ?_ | refine Pw.region ?_ | refine Pw.nil ?_ | refine Pw.then_ ?_ | refine Pw.skip ?_ | refine Pw.block ?_ | refine Pw.exit ?_ | refine Pw.inX ?_ | refine Pw.inN ?_ | refine Pw.inR ?_ | refine Pw.thenX ?_ | refine Pw.thenR ?_ | refine Pw.ret ?_) | refine Pw.list (Pw.pure rfl rfl rfl ?_) | refine Pw.inY rfl ?_ | refine Pw.list (Pw.off rfl rfl ?_) | refine Pw.condT rfl ?_ | refine Pw.condF rfl ?_ | refine Pw.list (Pw.box rfl rfl rfl rfl (fun _ => ?_)) | refine Pw.list (Pw.alloc rfl rfl rfl rfl rfl (fun _ => ?_)) | refine Pw.list (Pw.build rfl rfl rfl rfl ?_) | refine Pw.list (Pw.ld rfl inferInstance rfl rfl rfl ?_) | refine Pw.list (Pw.sto rfl rfl inferInstance rfl rfl rfl rfl rfl inferInstance rfl ?_))
    refine Pw.list (Pw.index rfl rfl rfl rfl (Int.natCast_nonneg i) c3 (fun w h => (fact1 h).has (Int.natCast_nonneg i) c3) rfl rfl ?_)
    rintro ad rfl
    refine Pw.list (Pw.fieldS rfl rfl rfl rfl rfl rfl rfl ?_)
    refine Pw.list (Pw.loadF p rfl inferInstance rfl (by rw [Int.toNat_natCast]; exact hp) rfl rfl rfl rfl ?_)
    repeat (first | (with_reducible first | refine Pw.seq ?_ | refine Pw.region ?_ | refine Pw.nil ?_ | refine Pw.then_ ?_ | refine Pw.skip ?_ | refine Pw.block ?_ | refine Pw.exit ?_ | refine Pw.inX ?_ | refine Pw.inN ?_ | refine Pw.inR ?_ | refine Pw.thenX ?_ | refine Pw.thenR ?_ | refine Pw.ret ?_) | refine Pw.list (Pw.pure rfl rfl rfl ?_) | refine Pw.inY rfl ?_ | refine Pw.list (Pw.off rfl rfl ?_) | refine Pw.condT rfl ?_ | refine Pw.condF rfl ?_ | refine Pw.list (Pw.box rfl rfl rfl rfl (fun _ => ?_)) | refine Pw.list (Pw.alloc rfl rfl rfl rfl rfl (fun _ => ?_)) | refine Pw.list (Pw.build rfl rfl rfl rfl ?_) | refine Pw.list (Pw.ld rfl inferInstance rfl rfl rfl ?_) | refine Pw.list (Pw.sto rfl rfl inferInstance rfl rfl rfl rfl rfl inferInstance rfl ?_))
    refine Pw.condD rfl (fun c4 => ?_) (fun c4 => ?_)
    · repeat (first | (with_reducible first | refine Pw.seq ?_ | refine Pw.region ?_ | refine Pw.nil ?_ | refine Pw.then_ ?_ | refine Pw.skip ?_ | refine Pw.block ?_ | refine Pw.exit ?_ | refine Pw.inX ?_ | refine Pw.inN ?_ | refine Pw.inR ?_ | refine Pw.thenX ?_ | refine Pw.thenR ?_ | refine Pw.ret ?_) | refine Pw.list (Pw.pure rfl rfl rfl ?_) | refine Pw.inY rfl ?_ | refine Pw.list (Pw.off rfl rfl ?_) | refine Pw.condT rfl ?_ | refine Pw.condF rfl ?_ | refine Pw.list (Pw.box rfl rfl rfl rfl (fun _ => ?_)) | refine Pw.list (Pw.alloc rfl rfl rfl rfl rfl (fun _ => ?_)) | refine Pw.list (Pw.build rfl rfl rfl rfl ?_) | refine Pw.list (Pw.ld rfl inferInstance rfl rfl rfl ?_) | refine Pw.list (Pw.sto rfl rfl inferInstance rfl rfl rfl rfl rfl inferInstance rfl ?_))
      refine Pw.list (Pw.indexS rfl rfl rfl rfl (Int.natCast_nonneg i) c3 rfl rfl ?_)
      refine Pw.list (Pw.fieldS rfl rfl rfl rfl rfl rfl rfl ?_)
      refine Pw.list (Pw.loadF p rfl inferInstance rfl (by rw [Int.toNat_natCast]; exact hp) rfl rfl rfl rfl ?_)
      repeat (first | (with_reducible first | refine Pw.seq ?_ | refine Pw.region ?_ | refine Pw.nil ?_ | refine Pw.then_ ?_ | refine Pw.skip ?_ | refine Pw.block ?_ | refine Pw.exit ?_ | refine Pw.inX ?_ | refine Pw.inN ?_ | refine Pw.inR ?_ | refine Pw.thenX ?_ | refine Pw.thenR ?_ | refine Pw.ret ?_) | refine Pw.list (Pw.pure rfl rfl rfl ?_) | refine Pw.inY rfl ?_ | refine Pw.list (Pw.off rfl rfl ?_) | refine Pw.condT rfl ?_ | refine Pw.condF rfl ?_ | refine Pw.list (Pw.box rfl rfl rfl rfl (fun _ => ?_)) | refine Pw.list (Pw.alloc rfl rfl rfl rfl rfl (fun _ => ?_)) | refine Pw.list (Pw.build rfl rfl rfl rfl ?_) | refine Pw.list (Pw.ld rfl inferInstance rfl rfl rfl ?_) | refine Pw.list (Pw.sto rfl rfl inferInstance rfl rfl rfl rfl rfl inferInstance rfl ?_))
      exact Pw.ret_ (x := ()) (.tmp rfl .nil) (congrArg (Value.int .u64) (by show p.2 = partX _ k; unfold partX; rw [if_neg c1, find_hit hp c4 hj])) trivial (fun w h => by trivial)
    · repeat (first | (with_reducible first | refine Pw.seq ?_ | refine Pw.region ?_ | refine Pw.nil ?_ | refine Pw.then_ ?_ | refine Pw.skip ?_ | refine Pw.block ?_ | refine Pw.exit ?_ | refine Pw.inX ?_ | refine Pw.inN ?_ | refine Pw.inR ?_ | refine Pw.thenX ?_ | refine Pw.thenR ?_ | refine Pw.ret ?_) | refine Pw.list (Pw.pure rfl rfl rfl ?_) | refine Pw.inY rfl ?_ | refine Pw.list (Pw.off rfl rfl ?_) | refine Pw.condT rfl ?_ | refine Pw.condF rfl ?_ | refine Pw.list (Pw.box rfl rfl rfl rfl (fun _ => ?_)) | refine Pw.list (Pw.alloc rfl rfl rfl rfl rfl (fun _ => ?_)) | refine Pw.list (Pw.build rfl rfl rfl rfl ?_) | refine Pw.list (Pw.ld rfl inferInstance rfl rfl rfl ?_) | refine Pw.list (Pw.sto rfl rfl inferInstance rfl rfl rfl rfl rfl inferInstance rfl ?_))
      refine Pw.re (d := 15) (v' := .int .i64 ((i + 1 : Nat) : Int)) rfl (congrArg (Value.int .i64) (i64s (by omega) htop)) ?_
      exact Pw.again (i + 1) ⟨by omega, below_snoc (p := fun y : Pt => decide (y.1 = k)) hj hp (decide_eq_false c4)⟩ (by show oth.length - (i + 1) < oth.length - i; omega) ⟨rfl, rfl, rfl, rfl, trivial⟩ rfl (fun w h => allCons (by first | exact fact0 (h) | exact fact0 (allTail (h)) | exact fact0 (allTail (allTail (h))) | exact fact0 (allTail (allTail (allTail (h)))) | exact fact0 (allTail (allTail (allTail (allTail (h))))) | exact fact0 (allTail (allTail (allTail (allTail (allTail (h)))))) | exact fact0 (allTail (allTail (allTail (allTail (allTail (allTail (h))))))) | exact fact0 (allTail (allTail (allTail (allTail (allTail (allTail (allTail (h)))))))) | exact fact0 (allTail (allTail (allTail (allTail (allTail (allTail (allTail (allTail (h))))))))) | exact fact0 (allTail (allTail (allTail (allTail (allTail (allTail (allTail (allTail (allTail (h))))))))))) (allCons (hv w h) allNil))
  · repeat (first | (with_reducible first | refine Pw.seq ?_ | refine Pw.region ?_ | refine Pw.nil ?_ | refine Pw.then_ ?_ | refine Pw.skip ?_ | refine Pw.block ?_ | refine Pw.exit ?_ | refine Pw.inX ?_ | refine Pw.inN ?_ | refine Pw.inR ?_ | refine Pw.thenX ?_ | refine Pw.thenR ?_ | refine Pw.ret ?_) | refine Pw.list (Pw.pure rfl rfl rfl ?_) | refine Pw.inY rfl ?_ | refine Pw.list (Pw.off rfl rfl ?_) | refine Pw.condT rfl ?_ | refine Pw.condF rfl ?_ | refine Pw.list (Pw.box rfl rfl rfl rfl (fun _ => ?_)) | refine Pw.list (Pw.alloc rfl rfl rfl rfl rfl (fun _ => ?_)) | refine Pw.list (Pw.build rfl rfl rfl rfl ?_) | refine Pw.list (Pw.ld rfl inferInstance rfl rfl rfl ?_) | refine Pw.list (Pw.sto rfl rfl inferInstance rfl rfl rfl rfl rfl inferInstance rfl ?_))
    exact Pw.ret_ (x := ()) (.tmp rfl .nil) (congrArg (Value.int .u64) (by unfold partX; rw [if_neg c1, find_miss (below_all (p := fun y : Pt => decide (y.1 = k)) hj (by omega))])) trivial (fun w h => by trivial)
end Go.Proofs.Wk
/- Exposures: the document's total, the parts found and compared. -/
namespace Go.Proofs.Wk
open Go.RowKit
set_option maxRecDepth 100000
set_option maxHeartbeats 1000000
attribute [local irreducible] Pw OpG
set_option linter.unusedVariables false
set_option linter.unusedSimpArgs false
def addR (a b : Int) : Int × Int := if a + b ≤ 18446744073709551615 then (a + b, 0) else (0, 3)
theorem rAdd_ct (a b : Int) (ha : U64 a) (hb : U64 b) : Ct Try.prog 129 #[.int .u64 a, .int .u64 b] (fun _ => True) (fun _ : Unit => .tuple #[.int .u64 (addR a b).1, .int .i64 (addR a b).2]) Tt (fun _ _ => True) := by
  unfold U64 at ha hb
  refine Ct.start Try.func129 rfl rfl (slots_of rfl slots2) (fun D w0 => ?_)
  repeat (first | (with_reducible first | refine Pw.seq ?_ | refine Pw.region ?_ | refine Pw.nil ?_ | refine Pw.then_ ?_ | refine Pw.skip ?_ | refine Pw.block ?_ | refine Pw.exit ?_ | refine Pw.inX ?_ | refine Pw.inN ?_ | refine Pw.inR ?_ | refine Pw.thenX ?_ | refine Pw.thenR ?_ | refine Pw.ret ?_) | refine Pw.list (Pw.pure rfl rfl rfl ?_) | refine Pw.inY rfl ?_ | refine Pw.list (Pw.off rfl rfl ?_) | refine Pw.condT rfl ?_ | refine Pw.condF rfl ?_ | refine Pw.list (Pw.box rfl rfl rfl rfl (fun _ => ?_)) | refine Pw.list (Pw.alloc rfl rfl rfl rfl rfl (fun _ => ?_)) | refine Pw.list (Pw.build rfl rfl rfl rfl ?_) | refine Pw.list (Pw.ld rfl inferInstance rfl rfl rfl ?_) | refine Pw.list (Pw.sto rfl rfl inferInstance rfl rfl rfl rfl rfl inferInstance rfl ?_))
  refine Pw.condD rfl (fun c => ?_) (fun c => ?_)
  · rw [wu64] at c
    repeat (first | (with_reducible first | refine Pw.seq ?_ | refine Pw.region ?_ | refine Pw.nil ?_ | refine Pw.then_ ?_ | refine Pw.skip ?_ | refine Pw.block ?_ | refine Pw.exit ?_ | refine Pw.inX ?_ | refine Pw.inN ?_ | refine Pw.inR ?_ | refine Pw.thenX ?_ | refine Pw.thenR ?_ | refine Pw.ret ?_) | refine Pw.list (Pw.pure rfl rfl rfl ?_) | refine Pw.inY rfl ?_ | refine Pw.list (Pw.off rfl rfl ?_) | refine Pw.condT rfl ?_ | refine Pw.condF rfl ?_ | refine Pw.list (Pw.box rfl rfl rfl rfl (fun _ => ?_)) | refine Pw.list (Pw.alloc rfl rfl rfl rfl rfl (fun _ => ?_)) | refine Pw.list (Pw.build rfl rfl rfl rfl ?_) | refine Pw.list (Pw.ld rfl inferInstance rfl rfl rfl ?_) | refine Pw.list (Pw.sto rfl rfl inferInstance rfl rfl rfl rfl rfl inferInstance rfl ?_))
    exact Pw.ret_ (x := ()) (.tmp rfl (.tmp rfl .nil)) (by unfold addR; rw [if_neg (by omega)]; rfl) trivial (fun w h => by trivial)
  · rw [wu64] at c
    repeat (first | (with_reducible first | refine Pw.seq ?_ | refine Pw.region ?_ | refine Pw.nil ?_ | refine Pw.then_ ?_ | refine Pw.skip ?_ | refine Pw.block ?_ | refine Pw.exit ?_ | refine Pw.inX ?_ | refine Pw.inN ?_ | refine Pw.inR ?_ | refine Pw.thenX ?_ | refine Pw.thenR ?_ | refine Pw.ret ?_) | refine Pw.list (Pw.pure rfl rfl rfl ?_) | refine Pw.inY rfl ?_ | refine Pw.list (Pw.off rfl rfl ?_) | refine Pw.condT rfl ?_ | refine Pw.condF rfl ?_ | refine Pw.list (Pw.box rfl rfl rfl rfl (fun _ => ?_)) | refine Pw.list (Pw.alloc rfl rfl rfl rfl rfl (fun _ => ?_)) | refine Pw.list (Pw.build rfl rfl rfl rfl ?_) | refine Pw.list (Pw.ld rfl inferInstance rfl rfl rfl ?_) | refine Pw.list (Pw.sto rfl rfl inferInstance rfl rfl rfl rfl rfl inferInstance rfl ?_))
    refine Pw.re (d := 4) (v' := .int .u64 (a + b)) rfl (congrArg (Value.int .u64) (wu (by omega) (by omega))) ?_
    exact Pw.ret_ (x := ()) (.tmp rfl (.tmp rfl .nil)) (by unfold addR; rw [if_pos (by omega)]; rfl) trivial (fun w h => by trivial)
theorem rSum_ct (l : List Int) (x : Option Addr × Nat) (hb : ∀ n ∈ l, U64 n) : Ct Try.prog 120 #[sl l x] (U1 l x) (fun _ : Unit => .tuple #[.int .u64 (sumM l).1, .int .i64 (sumM l).2]) Tt (fun _ _ => True) := by
  obtain ⟨A, c⟩ := x
  refine Ct.start Try.func120 rfl rfl (slots_of rfl slots1) (fun D w0 => ?_)
  refine Pw.use (p := l.length ≤ maxLen) (fun w h => (fact0 h).top) (fun htop => ?_)
  have htop := top63 htop
  repeat (first | (with_reducible first | refine Pw.seq ?_ | refine Pw.region ?_ | refine Pw.nil ?_ | refine Pw.then_ ?_ | refine Pw.skip ?_ | refine Pw.block ?_ | refine Pw.exit ?_ | refine Pw.inX ?_ | refine Pw.inN ?_ | refine Pw.inR ?_ | refine Pw.thenX ?_ | refine Pw.thenR ?_ | refine Pw.ret ?_) | refine Pw.list (Pw.pure rfl rfl rfl ?_) | refine Pw.inY rfl ?_ | refine Pw.list (Pw.off rfl rfl ?_) | refine Pw.condT rfl ?_ | refine Pw.condF rfl ?_)
  refine Pw.loopJ (σ := Nat) (fun i => i ≤ l.length ∧ lsum (l.take i) ≤ 18446744073709551615) (fun i => ⟨[(0, .slice A l.length c), (4, .int .u64 (lsum (l.take i))), (9, .int .i64 l.length), (10, .int .i64 i)], [], [Ints .u64 l A c]⟩) (fun i => l.length - i) 0 ⟨Nat.zero_le _, by simp [lsum]⟩ (Pw.enter ⟨rfl, rfl, rfl, rfl, trivial⟩ (fun _ h => h)) ?_
  rintro i ⟨hi, hs⟩
  dsimp only at hi hs ⊢
  repeat (first | (with_reducible first | refine Pw.seq ?_ | refine Pw.region ?_ | refine Pw.nil ?_ | refine Pw.then_ ?_ | refine Pw.skip ?_ | refine Pw.block ?_ | refine Pw.exit ?_ | refine Pw.inX ?_ | refine Pw.inN ?_ | refine Pw.inR ?_ | refine Pw.thenX ?_ | refine Pw.thenR ?_ | refine Pw.ret ?_) | refine Pw.list (Pw.pure rfl rfl rfl ?_) | refine Pw.inY rfl ?_ | refine Pw.list (Pw.off rfl rfl ?_) | refine Pw.condT rfl ?_ | refine Pw.condF rfl ?_)
  refine Pw.condD rfl (fun c3 => ?_) (fun c3 => ?_)
  · obtain ⟨y, hy, hm⟩ := get_at (show i < l.length by omega)
    have hyb := hb y hm
    have h0 := lsum_nonneg (l := l.take i) (fun n hn => hb n (List.mem_of_mem_take hn))
    have e1 : lsum (l.take (i + 1)) = lsum (l.take i) + y := by rw [take_snoc hy, lsum_snoc]
    repeat (first | (with_reducible first | refine Pw.seq ?_ | refine Pw.region ?_ | refine Pw.nil ?_ | refine Pw.then_ ?_ | refine Pw.skip ?_ | refine Pw.block ?_ | refine Pw.exit ?_ | refine Pw.inX ?_ | refine Pw.inN ?_ | refine Pw.inR ?_ | refine Pw.thenX ?_ | refine Pw.thenR ?_ | refine Pw.ret ?_) | refine Pw.list (Pw.pure rfl rfl rfl ?_) | refine Pw.inY rfl ?_ | refine Pw.list (Pw.off rfl rfl ?_) | refine Pw.condT rfl ?_ | refine Pw.condF rfl ?_)
    refine Pw.list (Pw.index rfl rfl rfl rfl (Int.natCast_nonneg i) c3 (fun w h => (fact0 h).has (Int.natCast_nonneg i) c3) rfl rfl ?_)
    rintro ad rfl
    refine Pw.list (Pw.load1 rfl rfl (fun w hs => by first | exact (fact0 hs.all).cell (by first | assumption | omega) (by first | assumption | omega) | exact (fact1 hs.all).cell (by first | assumption | omega) (by first | assumption | omega) | exact (fact2 hs.all).cell (by first | assumption | omega) (by first | assumption | omega) | exact (fact3 hs.all).cell (by first | assumption | omega) (by first | assumption | omega)) rfl rfl ?_)
    rw [get_rd hy]
    repeat (first | (with_reducible first | refine Pw.seq ?_ | refine Pw.region ?_ | refine Pw.nil ?_ | refine Pw.then_ ?_ | refine Pw.skip ?_ | refine Pw.block ?_ | refine Pw.exit ?_ | refine Pw.inX ?_ | refine Pw.inN ?_ | refine Pw.inR ?_ | refine Pw.thenX ?_ | refine Pw.thenR ?_ | refine Pw.ret ?_) | refine Pw.list (Pw.pure rfl rfl rfl ?_) | refine Pw.inY rfl ?_ | refine Pw.list (Pw.off rfl rfl ?_) | refine Pw.condT rfl ?_ | refine Pw.condF rfl ?_)
    refine Pw.list (Pw.call (rAdd_ct (lsum (l.take i)) y ⟨h0, hs⟩ hyb) rfl rfl rfl (by kernel_rfl) rfl rfl (fun w h => trivial) ?_)
    intro _ _
    by_cases h1 : lsum (l.take i) + y ≤ 18446744073709551615
    · have ea : addR (lsum (l.take i)) y = (lsum (l.take (i + 1)), 0) := by unfold addR; rw [if_pos h1, e1]
      rw [ea]
      repeat (first | (with_reducible first | refine Pw.seq ?_ | refine Pw.region ?_ | refine Pw.nil ?_ | refine Pw.then_ ?_ | refine Pw.skip ?_ | refine Pw.block ?_ | refine Pw.exit ?_ | refine Pw.inX ?_ | refine Pw.inN ?_ | refine Pw.inR ?_ | refine Pw.thenX ?_ | refine Pw.thenR ?_ | refine Pw.ret ?_) | refine Pw.list (Pw.pure rfl rfl rfl ?_) | refine Pw.inY rfl ?_ | refine Pw.list (Pw.off rfl rfl ?_) | refine Pw.condT rfl ?_ | refine Pw.condF rfl ?_ | refine Pw.list (Pw.box rfl rfl rfl rfl (fun _ => ?_)) | refine Pw.list (Pw.alloc rfl rfl rfl rfl rfl (fun _ => ?_)) | refine Pw.list (Pw.build rfl rfl rfl rfl ?_) | refine Pw.list (Pw.ld rfl inferInstance rfl rfl rfl ?_) | refine Pw.list (Pw.sto rfl rfl inferInstance rfl rfl rfl rfl rfl inferInstance rfl ?_))
      refine Pw.re (d := 10) (v' := .int .i64 ((i + 1 : Nat) : Int)) rfl (congrArg (Value.int .i64) (i64s (by omega) htop)) ?_
      exact Pw.again (i + 1) ⟨by omega, by omega⟩ (by show l.length - (i + 1) < l.length - i; omega) ⟨rfl, rfl, rfl, rfl, trivial⟩ rfl (fun w h => allTail h)
    · have ea : addR (lsum (l.take i)) y = (0, 3) := by unfold addR; rw [if_neg h1]
      rw [ea]
      have h2 := lsum_take_le hb (i + 1)
      repeat (first | (with_reducible first | refine Pw.seq ?_ | refine Pw.region ?_ | refine Pw.nil ?_ | refine Pw.then_ ?_ | refine Pw.skip ?_ | refine Pw.block ?_ | refine Pw.exit ?_ | refine Pw.inX ?_ | refine Pw.inN ?_ | refine Pw.inR ?_ | refine Pw.thenX ?_ | refine Pw.thenR ?_ | refine Pw.ret ?_) | refine Pw.list (Pw.pure rfl rfl rfl ?_) | refine Pw.inY rfl ?_ | refine Pw.list (Pw.off rfl rfl ?_) | refine Pw.condT rfl ?_ | refine Pw.condF rfl ?_ | refine Pw.list (Pw.box rfl rfl rfl rfl (fun _ => ?_)) | refine Pw.list (Pw.alloc rfl rfl rfl rfl rfl (fun _ => ?_)) | refine Pw.list (Pw.build rfl rfl rfl rfl ?_) | refine Pw.list (Pw.ld rfl inferInstance rfl rfl rfl ?_) | refine Pw.list (Pw.sto rfl rfl inferInstance rfl rfl rfl rfl rfl inferInstance rfl ?_))
      exact Pw.ret_ (x := ()) (.tmp rfl (.tmp rfl .nil)) (by unfold sumM; rw [if_neg (by omega)]; rfl) trivial (fun w h => by trivial)
  · repeat (first | (with_reducible first | refine Pw.seq ?_ | refine Pw.region ?_ | refine Pw.nil ?_ | refine Pw.then_ ?_ | refine Pw.skip ?_ | refine Pw.block ?_ | refine Pw.exit ?_ | refine Pw.inX ?_ | refine Pw.inN ?_ | refine Pw.inR ?_ | refine Pw.thenX ?_ | refine Pw.thenR ?_ | refine Pw.ret ?_) | refine Pw.list (Pw.pure rfl rfl rfl ?_) | refine Pw.inY rfl ?_ | refine Pw.list (Pw.off rfl rfl ?_) | refine Pw.condT rfl ?_ | refine Pw.condF rfl ?_)
    rw [List.take_of_length_le (by omega)] at hs ⊢
    exact Pw.ret_ (x := ()) (.tmp rfl (.tmp rfl .nil)) (by unfold sumM; rw [if_pos hs]; rfl) trivial (fun w h => by trivial)
theorem rtotal_ct (l : List Pt) (x : Option Addr × Nat) (hl : l.length ≤ 1000000) (hb : ∀ n ∈ stk l, U64 n) :
    Ct Try.prog 99 #[psV l x] (PS l x) (fun _ : Unit => .tuple #[.int .u64 (sumM (stk l)).1, .int .i64 (sumM (stk l)).2]) Tt (fun _ _ => True) := by
  have htop : l.length ≤ 9223372036854775807 := by omega
  obtain ⟨A, c⟩ := x
  refine Ct.start Try.func99 rfl rfl (slots_of rfl slots1) (fun D w0 => ?_)
  repeat (first | (with_reducible first | refine Pw.seq ?_ | refine Pw.region ?_ | refine Pw.nil ?_ | refine Pw.then_ ?_ | refine Pw.skip ?_ | refine Pw.block ?_ | refine Pw.exit ?_ | refine Pw.inX ?_ | refine Pw.inN ?_ | refine Pw.inR ?_ | refine Pw.thenX ?_ | refine Pw.thenR ?_ | refine Pw.ret ?_) | refine Pw.list (Pw.pure rfl rfl rfl ?_) | refine Pw.inY rfl ?_ | refine Pw.list (Pw.off rfl rfl ?_) | refine Pw.condT rfl ?_ | refine Pw.condF rfl ?_)
  refine Pw.loopJ (σ := Nat × Gr) (fun t => t.1 ≤ l.length ∧ gOk t.2 ((stk (l.take t.1)).map (Value.int .u64)) t.1 1) (fun t => ⟨[(0, .slice A l.length c), (4, gv t.2 t.1), (7, .int .i64 l.length), (8, .int .i64 t.1)], gL1 t.2 ((stk (l.take t.1)).map (Value.int .u64)) 29, [PS l (A, c)]⟩) (fun t => l.length - t.1) (0, none) ⟨Nat.zero_le _, rfl, rfl⟩ (Pw.enter ⟨rfl, rfl, rfl, rfl, trivial⟩ (fun _ h => h)) ?_
  rintro ⟨i, q⟩ ⟨hi, hq⟩
  dsimp only at hi hq ⊢
  repeat (first | (with_reducible first | refine Pw.seq ?_ | refine Pw.region ?_ | refine Pw.nil ?_ | refine Pw.then_ ?_ | refine Pw.skip ?_ | refine Pw.block ?_ | refine Pw.exit ?_ | refine Pw.inX ?_ | refine Pw.inN ?_ | refine Pw.inR ?_ | refine Pw.thenX ?_ | refine Pw.thenR ?_ | refine Pw.ret ?_) | refine Pw.list (Pw.pure rfl rfl rfl ?_) | refine Pw.inY rfl ?_ | refine Pw.list (Pw.off rfl rfl ?_) | refine Pw.condT rfl ?_ | refine Pw.condF rfl ?_)
  refine Pw.condD rfl (fun c3 => ?_) (fun c3 => ?_)
  · obtain ⟨p, hp, hm⟩ := get_at (show i < l.length by omega)
    repeat (first | (with_reducible first | refine Pw.seq ?_ | refine Pw.region ?_ | refine Pw.nil ?_ | refine Pw.then_ ?_ | refine Pw.skip ?_ | refine Pw.block ?_ | refine Pw.exit ?_ | refine Pw.inX ?_ | refine Pw.inN ?_ | refine Pw.inR ?_ | refine Pw.thenX ?_ | refine Pw.thenR ?_ | refine Pw.ret ?_) | refine Pw.list (Pw.pure rfl rfl rfl ?_) | refine Pw.inY rfl ?_ | refine Pw.list (Pw.off rfl rfl ?_) | refine Pw.condT rfl ?_ | refine Pw.condF rfl ?_)
    refine Pw.list (Pw.index rfl rfl rfl rfl (Int.natCast_nonneg i) c3 (fun w h => (fact0 h).has (Int.natCast_nonneg i) c3) rfl rfl ?_)
    rintro ad rfl
    refine Pw.list (Pw.fieldS rfl rfl rfl rfl rfl rfl rfl ?_)
    refine Pw.list (Pw.loadF p rfl inferInstance rfl (by rw [Int.toNat_natCast]; exact hp) rfl rfl rfl rfl ?_)
    repeat (first | (with_reducible first | refine Pw.seq ?_ | refine Pw.region ?_ | refine Pw.nil ?_ | refine Pw.then_ ?_ | refine Pw.skip ?_ | refine Pw.block ?_ | refine Pw.exit ?_ | refine Pw.inX ?_ | refine Pw.inN ?_ | refine Pw.inR ?_ | refine Pw.thenX ?_ | refine Pw.thenR ?_ | refine Pw.ret ?_) | refine Pw.list (Pw.pure rfl rfl rfl ?_) | refine Pw.inY rfl ?_ | refine Pw.list (Pw.off rfl rfl ?_) | refine Pw.condT rfl ?_ | refine Pw.condF rfl ?_)
    refine Pw.list (Pw.lit1 rfl rfl rfl rfl rfl rfl rfl rfl rfl (fun g1 => freeHead ?_))
    refine Pw.list (Pw.push (s := q) (news := [.int .u64 p.2]) (L0 := []) rfl rfl rfl rfl rfl rfl rfl hq rfl (fun u hu => by rw [List.mem_singleton.1 hu]; rfl) (fun w hs j u hu => by
      have h1 := fact0 hs.all
      rw [add_none, cell_of_blk h1]
      simpa using hu) (by omega) (by simp only [maxLen]; omega) (by show (i + 1) * 8 ≤ _; omega) rfl rfl (fun q' hq' => ?_))
    repeat (first | (with_reducible first | refine Pw.seq ?_ | refine Pw.region ?_ | refine Pw.nil ?_ | refine Pw.then_ ?_ | refine Pw.skip ?_ | refine Pw.block ?_ | refine Pw.exit ?_ | refine Pw.inX ?_ | refine Pw.inN ?_ | refine Pw.inR ?_ | refine Pw.thenX ?_ | refine Pw.thenR ?_ | refine Pw.ret ?_) | refine Pw.list (Pw.pure rfl rfl rfl ?_) | refine Pw.inY rfl ?_ | refine Pw.list (Pw.off rfl rfl ?_) | refine Pw.condT rfl ?_ | refine Pw.condF rfl ?_ | refine Pw.list (Pw.box rfl rfl rfl rfl (fun _ => ?_)) | refine Pw.list (Pw.alloc rfl rfl rfl rfl rfl (fun _ => ?_)) | refine Pw.list (Pw.build rfl rfl rfl rfl ?_) | refine Pw.list (Pw.ld rfl inferInstance rfl rfl rfl ?_) | refine Pw.list (Pw.sto rfl rfl inferInstance rfl rfl rfl rfl rfl inferInstance rfl ?_))
    refine Pw.re (d := 8) (v' := .int .i64 ((i + 1 : Nat) : Int)) rfl (congrArg (Value.int .i64) (i64s (by omega) htop)) ?_
    have e2 : (stk (l.take (i + 1))).map (Value.int .u64) = (stk (l.take i)).map (Value.int .u64) ++ [.int .u64 p.2] := by rw [stk_snoc hp]; simp
    exact Pw.again (i + 1, q') ⟨by omega, by rw [e2]; exact hq'⟩ (by show l.length - (i + 1) < l.length - i; omega) ⟨rfl, rfl, rfl, rfl, trivial⟩ (by rw [e2]) (fun w h => allCons (hv w h) allNil)
  · repeat (first | (with_reducible first | refine Pw.seq ?_ | refine Pw.region ?_ | refine Pw.nil ?_ | refine Pw.then_ ?_ | refine Pw.skip ?_ | refine Pw.block ?_ | refine Pw.exit ?_ | refine Pw.inX ?_ | refine Pw.inN ?_ | refine Pw.inR ?_ | refine Pw.thenX ?_ | refine Pw.thenR ?_ | refine Pw.ret ?_) | refine Pw.list (Pw.pure rfl rfl rfl ?_) | refine Pw.inY rfl ?_ | refine Pw.list (Pw.off rfl rfl ?_) | refine Pw.condT rfl ?_ | refine Pw.condF rfl ?_)
    obtain rfl : i = l.length := by omega
    rw [List.take_length] at hq ⊢
    refine Pw.eqL (L' := gL q ((stk l).map (Value.int .u64)) 29 ++ []) (by simp) ?_
    refine Pw.freeG hq (fun A c e hc => ?_)
    refine Pw.re (d := 20) (v' := sl (stk l) (A, c)) rfl (by rw [e]; show Value.slice A _ c = Value.slice A (stk l).length c; rw [stk_len]) ?_
    refine Pw.list (Pw.call (rSum_ct (stk l) (A, c) hb) rfl rfl rfl (by kernel_rfl) rfl rfl (fun w h => ints_of_cells (by rw [stk_len]; exact hc) (by rw [stk_len]; simp only [maxLen]; omega) (fact0 h)) ?_)
    intro _ _
    repeat (first | (with_reducible first | refine Pw.seq ?_ | refine Pw.region ?_ | refine Pw.nil ?_ | refine Pw.then_ ?_ | refine Pw.skip ?_ | refine Pw.block ?_ | refine Pw.exit ?_ | refine Pw.inX ?_ | refine Pw.inN ?_ | refine Pw.inR ?_ | refine Pw.thenX ?_ | refine Pw.thenR ?_ | refine Pw.ret ?_) | refine Pw.list (Pw.pure rfl rfl rfl ?_) | refine Pw.inY rfl ?_ | refine Pw.list (Pw.off rfl rfl ?_) | refine Pw.condT rfl ?_ | refine Pw.condF rfl ?_ | refine Pw.list (Pw.box rfl rfl rfl rfl (fun _ => ?_)) | refine Pw.list (Pw.alloc rfl rfl rfl rfl rfl (fun _ => ?_)) | refine Pw.list (Pw.build rfl rfl rfl rfl ?_) | refine Pw.list (Pw.ld rfl inferInstance rfl rfl rfl ?_) | refine Pw.list (Pw.sto rfl rfl inferInstance rfl rfl rfl rfl rfl inferInstance rfl ?_))
    exact Pw.ret_ (x := ()) (.tmp rfl (.tmp rfl .nil)) rfl trivial (fun w h => by trivial)
theorem rTotal_ct (x : Ex) (hx : ExW x) (hl : x.oth.length ≤ 100000) : Ct Try.prog 54 #[exV x] (exF x) (fun _ : Unit => .tuple #[.int .u64 (totX x).1, .int .i64 (totX x).2]) Tt (fun _ _ => True) := by
  have hb := totX_b hx
  refine Ct.start Try.func54 rfl rfl (slots_of rfl slots1) (fun D w0 => ?_)
  repeat (first | (with_reducible first | refine Pw.seq ?_ | refine Pw.region ?_ | refine Pw.nil ?_ | refine Pw.then_ ?_ | refine Pw.skip ?_ | refine Pw.block ?_ | refine Pw.exit ?_ | refine Pw.inX ?_ | refine Pw.inN ?_ | refine Pw.inR ?_ | refine Pw.thenX ?_ | refine Pw.thenR ?_ | refine Pw.ret ?_) | refine Pw.list (Pw.pure rfl rfl rfl ?_) | refine Pw.inY rfl ?_ | refine Pw.list (Pw.off rfl rfl ?_) | refine Pw.condT rfl ?_ | refine Pw.condF rfl ?_)
  refine Pw.list (Pw.box rfl rfl rfl rfl (fun g1 => freeHead ?_))
  repeat (first | (with_reducible first | refine Pw.seq ?_ | refine Pw.region ?_ | refine Pw.nil ?_ | refine Pw.then_ ?_ | refine Pw.skip ?_ | refine Pw.block ?_ | refine Pw.exit ?_ | refine Pw.inX ?_ | refine Pw.inN ?_ | refine Pw.inR ?_ | refine Pw.thenX ?_ | refine Pw.thenR ?_ | refine Pw.ret ?_) | refine Pw.list (Pw.pure rfl rfl rfl ?_) | refine Pw.inY rfl ?_ | refine Pw.list (Pw.off rfl rfl ?_) | refine Pw.condT rfl ?_ | refine Pw.condF rfl ?_ | refine Pw.list (Pw.box rfl rfl rfl rfl (fun _ => ?_)) | refine Pw.list (Pw.alloc rfl rfl rfl rfl rfl (fun _ => ?_)) | refine Pw.list (Pw.build rfl rfl rfl rfl ?_) | refine Pw.list (Pw.ld rfl inferInstance rfl rfl rfl ?_) | refine Pw.list (Pw.sto rfl rfl inferInstance rfl rfl rfl rfl rfl inferInstance rfl ?_))
  have ec : cellsP x.oth ++ [.int .i64 0, .int .u64 x.own] = cellsP (x.oth ++ [(0, x.own)]) := by rw [cellsP_snoc]; rfl
  have es : stk (x.oth ++ [(0, x.own)]) = stk x.oth ++ [x.own] := by rw [stk_append]; rfl
  have hb' : ∀ n ∈ stk (x.oth ++ [(0, x.own)]), U64 n := by rw [es]; exact hb
  refine Pw.drawnG mixed rfl rfl ?_
  refine Pw.takeP 1 (nb 14 2) rfl rfl rfl rfl (by kernel_rfl) np sf ?_
  refine Pw.takeF 2 (nb 14 6) rfl rfl inferInstance rfl rfl rfl (by kernel_rfl) np sf ?_
  refine Pw.takeP 4 (nb 14 22) rfl rfl rfl rfl (by kernel_rfl) np sf ?_
  refine Pw.takeF 5 (nb 14 54) rfl rfl inferInstance rfl rfl rfl (by kernel_rfl) np sf ?_
  refine Pw.takeBuild 6 (nb 14 118) rfl rfl rfl rfl rfl (by kernel_rfl) np sf ?_
  refine Pw.two 0 7 (nb 14 119) (nb 14 246) rfl rfl (by kernel_rfl) ?_ ?_
  · skip
    refine Pw.lit0 rfl rfl rfl rfl (fun g4 => ?_)
    refine Pw.held sf ?_
    refine Pw.two 3 7 (nb 14 127) (nb 14 247) rfl rfl (by kernel_rfl) ?_ ?_
    · skip
      refine Pw.pushG (s := some (g4, 0, [])) (m := 0) (cells := []) (news := cellsP x.oth) (L0 := []) rfl rfl rfl rfl rfl rfl rfl ⟨rfl, Nat.le_refl _, rfl⟩ (cellsP_len x.oth) cellsP_one (fun w hs j u hu => Rows.toCellsE ((hv w hs.all : exF x w) : PS x.oth x.z w) (by omega) j u hu) (by show 0 < 2; omega) (by simp only [maxLen]; omega) (by show (0 + x.oth.length) * 16 ≤ _; omega) rfl rfl (fun q hq => ?_)
      rw [Nat.zero_add, List.nil_append] at hq ⊢
      refine Pw.held sf ?_
      refine Pw.one 7 (nb 14 255) rfl (by kernel_rfl) ?_
      refine Pw.lit12 rfl rfl rfl rfl rfl rfl rfl rfl rfl (fun g7 => freeHead ?_)
      refine Pw.held sf ?_
      refine Pw.one 8 (nb 14 511) rfl (by kernel_rfl) ?_
      skip
      refine Pw.push (s := q) (m := x.oth.length) (cells := cellsP x.oth) (news := [.int .i64 0, .int .u64 x.own]) (L0 := []) rfl rfl rfl rfl rfl rfl (by simp) hq rfl (fun u hu => by rcases List.mem_cons.1 hu with rfl | hu; rfl; rw [List.mem_singleton.1 hu]; rfl) (fun w hs j u hu => by
        have h1 : w.heap[g7]? = some (row [.int .i64 0, .int .u64 x.own] 81) := by first | exact fact0 hs.all | exact fact1 hs.all
        rw [add_none, cell_of_blk h1]
        simpa using hu) (by omega) (by simp only [maxLen]; omega) (by show (x.oth.length + 1) * 16 ≤ _; omega) rfl rfl (fun q' hq' => ?_)
      rw [ec] at hq' ⊢
      refine Pw.freeG hq' (fun A c e hc => ?_)
      refine Pw.re (d := 12) (v' := psV (x.oth ++ [(0, x.own)]) (A, c)) rfl (by rw [e]; show Value.slice A _ c = Value.slice A (x.oth ++ [(0, x.own)]).length c; rw [List.length_append]; rfl) ?_
      refine Pw.held sf ?_
      refine Pw.one 9 (nb 14 1023) rfl (by kernel_rfl) ?_
      refine Pw.call (rtotal_ct (x.oth ++ [(0, x.own)]) (A, c) (by rw [List.length_append, List.length_singleton]; omega) hb') rfl rfl rfl (by kernel_rfl) rfl rfl (fun w h => rows_of_cells (fun _ _ => rfl) (fun _ _ => trivial) (by rw [List.length_append]; exact hc) (by rw [List.length_append, List.length_singleton]; simp only [maxLen]; omega) (by omega) (by first | exact fact0 h | exact fact1 h)) ?_
      intro _ _
      rw [es]
      refine Pw.held sf ?_
      refine Pw.takeP 10 (nb 14 2047) rfl rfl rfl rfl (by kernel_rfl) np sf ?_
      refine Pw.takeP 11 (nb 14 4095) rfl rfl rfl rfl (by kernel_rfl) np sf ?_
      refine Pw.takeP 12 (nb 14 8191) rfl rfl rfl rfl (by kernel_rfl) np sf ?_
      refine Pw.takeP 13 (nb 14 16383) rfl rfl rfl rfl (by kernel_rfl) np sf ?_
      refine Pw.done (by kernel_rfl) ?_
      repeat (first | (with_reducible first | refine Pw.seq ?_ | refine Pw.region ?_ | refine Pw.nil ?_ | refine Pw.then_ ?_ | refine Pw.skip ?_ | refine Pw.block ?_ | refine Pw.exit ?_ | refine Pw.inX ?_ | refine Pw.inN ?_ | refine Pw.inR ?_ | refine Pw.thenX ?_ | refine Pw.thenR ?_ | refine Pw.ret ?_) | refine Pw.list (Pw.pure rfl rfl rfl ?_) | refine Pw.inY rfl ?_ | refine Pw.list (Pw.off rfl rfl ?_) | refine Pw.condT rfl ?_ | refine Pw.condF rfl ?_)
      exact Pw.ret_ (x := ()) (.tmp rfl (.tmp rfl .nil)) rfl trivial (fun w h => by trivial)
    · skip
      refine Pw.lit12 rfl rfl rfl rfl rfl rfl rfl rfl rfl (fun g7 => freeHead ?_)
      refine Pw.held sf ?_
      refine Pw.one 3 (nb 14 255) rfl (by kernel_rfl) ?_
      refine Pw.pushG (s := some (g4, 0, [])) (m := 0) (cells := []) (news := cellsP x.oth) (L0 := []) rfl rfl rfl rfl rfl rfl rfl ⟨rfl, Nat.le_refl _, rfl⟩ (cellsP_len x.oth) cellsP_one (fun w hs j u hu => Rows.toCellsE ((hv w hs.all : exF x w) : PS x.oth x.z w) (by omega) j u hu) (by show 0 < 2; omega) (by simp only [maxLen]; omega) (by show (0 + x.oth.length) * 16 ≤ _; omega) rfl rfl (fun q hq => ?_)
      rw [Nat.zero_add, List.nil_append] at hq ⊢
      refine Pw.held sf ?_
      refine Pw.one 8 (nb 14 511) rfl (by kernel_rfl) ?_
      skip
      refine Pw.push (s := q) (m := x.oth.length) (cells := cellsP x.oth) (news := [.int .i64 0, .int .u64 x.own]) (L0 := []) rfl rfl rfl rfl rfl rfl (by simp) hq rfl (fun u hu => by rcases List.mem_cons.1 hu with rfl | hu; rfl; rw [List.mem_singleton.1 hu]; rfl) (fun w hs j u hu => by
        have h1 : w.heap[g7]? = some (row [.int .i64 0, .int .u64 x.own] 81) := by first | exact fact0 hs.all | exact fact1 hs.all
        rw [add_none, cell_of_blk h1]
        simpa using hu) (by omega) (by simp only [maxLen]; omega) (by show (x.oth.length + 1) * 16 ≤ _; omega) rfl rfl (fun q' hq' => ?_)
      rw [ec] at hq' ⊢
      refine Pw.freeG hq' (fun A c e hc => ?_)
      refine Pw.re (d := 12) (v' := psV (x.oth ++ [(0, x.own)]) (A, c)) rfl (by rw [e]; show Value.slice A _ c = Value.slice A (x.oth ++ [(0, x.own)]).length c; rw [List.length_append]; rfl) ?_
      refine Pw.held sf ?_
      refine Pw.one 9 (nb 14 1023) rfl (by kernel_rfl) ?_
      refine Pw.call (rtotal_ct (x.oth ++ [(0, x.own)]) (A, c) (by rw [List.length_append, List.length_singleton]; omega) hb') rfl rfl rfl (by kernel_rfl) rfl rfl (fun w h => rows_of_cells (fun _ _ => rfl) (fun _ _ => trivial) (by rw [List.length_append]; exact hc) (by rw [List.length_append, List.length_singleton]; simp only [maxLen]; omega) (by omega) (by first | exact fact0 h | exact fact1 h)) ?_
      intro _ _
      rw [es]
      refine Pw.held sf ?_
      refine Pw.takeP 10 (nb 14 2047) rfl rfl rfl rfl (by kernel_rfl) np sf ?_
      refine Pw.takeP 11 (nb 14 4095) rfl rfl rfl rfl (by kernel_rfl) np sf ?_
      refine Pw.takeP 12 (nb 14 8191) rfl rfl rfl rfl (by kernel_rfl) np sf ?_
      refine Pw.takeP 13 (nb 14 16383) rfl rfl rfl rfl (by kernel_rfl) np sf ?_
      refine Pw.done (by kernel_rfl) ?_
      repeat (first | (with_reducible first | refine Pw.seq ?_ | refine Pw.region ?_ | refine Pw.nil ?_ | refine Pw.then_ ?_ | refine Pw.skip ?_ | refine Pw.block ?_ | refine Pw.exit ?_ | refine Pw.inX ?_ | refine Pw.inN ?_ | refine Pw.inR ?_ | refine Pw.thenX ?_ | refine Pw.thenR ?_ | refine Pw.ret ?_) | refine Pw.list (Pw.pure rfl rfl rfl ?_) | refine Pw.inY rfl ?_ | refine Pw.list (Pw.off rfl rfl ?_) | refine Pw.condT rfl ?_ | refine Pw.condF rfl ?_)
      exact Pw.ret_ (x := ()) (.tmp rfl (.tmp rfl .nil)) rfl trivial (fun w h => by trivial)
  · skip
    refine Pw.lit12 rfl rfl rfl rfl rfl rfl rfl rfl rfl (fun g7 => freeHead ?_)
    refine Pw.held sf ?_
    refine Pw.one 0 (nb 14 247) rfl (by kernel_rfl) ?_
    refine Pw.lit0 rfl rfl rfl rfl (fun g4 => ?_)
    refine Pw.held sf ?_
    refine Pw.one 3 (nb 14 255) rfl (by kernel_rfl) ?_
    refine Pw.pushG (s := some (g4, 0, [])) (m := 0) (cells := []) (news := cellsP x.oth) (L0 := []) rfl rfl rfl rfl rfl rfl rfl ⟨rfl, Nat.le_refl _, rfl⟩ (cellsP_len x.oth) cellsP_one (fun w hs j u hu => Rows.toCellsE ((hv w hs.all : exF x w) : PS x.oth x.z w) (by omega) j u hu) (by show 0 < 2; omega) (by simp only [maxLen]; omega) (by show (0 + x.oth.length) * 16 ≤ _; omega) rfl rfl (fun q hq => ?_)
    rw [Nat.zero_add, List.nil_append] at hq ⊢
    refine Pw.held sf ?_
    refine Pw.one 8 (nb 14 511) rfl (by kernel_rfl) ?_
    skip
    refine Pw.push (s := q) (m := x.oth.length) (cells := cellsP x.oth) (news := [.int .i64 0, .int .u64 x.own]) (L0 := []) rfl rfl rfl rfl rfl rfl (by simp) hq rfl (fun u hu => by rcases List.mem_cons.1 hu with rfl | hu; rfl; rw [List.mem_singleton.1 hu]; rfl) (fun w hs j u hu => by
      have h1 : w.heap[g7]? = some (row [.int .i64 0, .int .u64 x.own] 81) := by first | exact fact0 hs.all | exact fact1 hs.all
      rw [add_none, cell_of_blk h1]
      simpa using hu) (by omega) (by simp only [maxLen]; omega) (by show (x.oth.length + 1) * 16 ≤ _; omega) rfl rfl (fun q' hq' => ?_)
    rw [ec] at hq' ⊢
    refine Pw.freeG hq' (fun A c e hc => ?_)
    refine Pw.re (d := 12) (v' := psV (x.oth ++ [(0, x.own)]) (A, c)) rfl (by rw [e]; show Value.slice A _ c = Value.slice A (x.oth ++ [(0, x.own)]).length c; rw [List.length_append]; rfl) ?_
    refine Pw.held sf ?_
    refine Pw.one 9 (nb 14 1023) rfl (by kernel_rfl) ?_
    refine Pw.call (rtotal_ct (x.oth ++ [(0, x.own)]) (A, c) (by rw [List.length_append, List.length_singleton]; omega) hb') rfl rfl rfl (by kernel_rfl) rfl rfl (fun w h => rows_of_cells (fun _ _ => rfl) (fun _ _ => trivial) (by rw [List.length_append]; exact hc) (by rw [List.length_append, List.length_singleton]; simp only [maxLen]; omega) (by omega) (by first | exact fact0 h | exact fact1 h)) ?_
    intro _ _
    rw [es]
    refine Pw.held sf ?_
    refine Pw.takeP 10 (nb 14 2047) rfl rfl rfl rfl (by kernel_rfl) np sf ?_
    refine Pw.takeP 11 (nb 14 4095) rfl rfl rfl rfl (by kernel_rfl) np sf ?_
    refine Pw.takeP 12 (nb 14 8191) rfl rfl rfl rfl (by kernel_rfl) np sf ?_
    refine Pw.takeP 13 (nb 14 16383) rfl rfl rfl rfl (by kernel_rfl) np sf ?_
    refine Pw.done (by kernel_rfl) ?_
    repeat (first | (with_reducible first | refine Pw.seq ?_ | refine Pw.region ?_ | refine Pw.nil ?_ | refine Pw.then_ ?_ | refine Pw.skip ?_ | refine Pw.block ?_ | refine Pw.exit ?_ | refine Pw.inX ?_ | refine Pw.inN ?_ | refine Pw.inR ?_ | refine Pw.thenX ?_ | refine Pw.thenR ?_ | refine Pw.ret ?_) | refine Pw.list (Pw.pure rfl rfl rfl ?_) | refine Pw.inY rfl ?_ | refine Pw.list (Pw.off rfl rfl ?_) | refine Pw.condT rfl ?_ | refine Pw.condF rfl ?_)
    exact Pw.ret_ (x := ()) (.tmp rfl (.tmp rfl .nil)) rfl trivial (fun w h => by trivial)
theorem Parts_ct (l : List Pt) (y z : Option Addr × Nat) : Ct Try.prog 57 #[psV l y, psV l z] (fun W => PS l y W ∧ PS l z W) (fun _ : Unit => .bool true) Tt (fun _ _ => True) := by
  obtain ⟨A, c⟩ := y
  obtain ⟨B, c2⟩ := z
  refine Ct.start Try.func57 rfl rfl (slots_of rfl slots2) (fun D w0 => Pw.facts (G' := [PS l (A, c), PS l (B, c2)]) (fun w h => allCons (fact0 h).1 (allCons (fact0 h).2 allNil)) ?_)
  refine Pw.use (p := l.length ≤ maxLen) (fun w h => (fact0 h).top) (fun htop => ?_)
  have htop := top63 htop
  repeat (first | (with_reducible first | refine Pw.seq ?_ | refine Pw.region ?_ | refine Pw.nil ?_ | refine Pw.then_ ?_ | refine Pw.skip ?_ | refine Pw.block ?_ | refine Pw.exit ?_ | refine Pw.inX ?_ | refine Pw.inN ?_ | refine Pw.inR ?_ | refine Pw.thenX ?_ | refine Pw.thenR ?_ | refine Pw.ret ?_) | refine Pw.list (Pw.pure rfl rfl rfl ?_) | refine Pw.inY rfl ?_ | refine Pw.list (Pw.off rfl rfl ?_) | refine Pw.condT rfl ?_ | refine Pw.condF rfl ?_)
  refine Pw.condD rfl (fun c0 => absurd rfl c0) (fun c0 => ?_)
  repeat (first | (with_reducible first | refine Pw.seq ?_ | refine Pw.region ?_ | refine Pw.nil ?_ | refine Pw.then_ ?_ | refine Pw.skip ?_ | refine Pw.block ?_ | refine Pw.exit ?_ | refine Pw.inX ?_ | refine Pw.inN ?_ | refine Pw.inR ?_ | refine Pw.thenX ?_ | refine Pw.thenR ?_ | refine Pw.ret ?_) | refine Pw.list (Pw.pure rfl rfl rfl ?_) | refine Pw.inY rfl ?_ | refine Pw.list (Pw.off rfl rfl ?_) | refine Pw.condT rfl ?_ | refine Pw.condF rfl ?_ | refine Pw.list (Pw.box rfl rfl rfl rfl (fun _ => ?_)) | refine Pw.list (Pw.alloc rfl rfl rfl rfl rfl (fun _ => ?_)) | refine Pw.list (Pw.build rfl rfl rfl rfl ?_) | refine Pw.list (Pw.ld rfl inferInstance rfl rfl rfl ?_) | refine Pw.list (Pw.sto rfl rfl inferInstance rfl rfl rfl rfl rfl inferInstance rfl ?_))
  refine Pw.loopJ (σ := Nat) (fun i => i ≤ l.length) (fun i => ⟨[(0, .slice A l.length c), (1, .slice B l.length c2), (12, .int .i64 l.length), (13, .int .i64 i)], [], [PS l (A, c), PS l (B, c2)]⟩) (fun i => l.length - i) 0 (Nat.zero_le _) (Pw.enter ⟨rfl, rfl, rfl, rfl, trivial⟩ (fun _ h => h)) ?_
  rintro i hi
  dsimp only at hi ⊢
  repeat (first | (with_reducible first | refine Pw.seq ?_ | refine Pw.region ?_ | refine Pw.nil ?_ | refine Pw.then_ ?_ | refine Pw.skip ?_ | refine Pw.block ?_ | refine Pw.exit ?_ | refine Pw.inX ?_ | refine Pw.inN ?_ | refine Pw.inR ?_ | refine Pw.thenX ?_ | refine Pw.thenR ?_ | refine Pw.ret ?_) | refine Pw.list (Pw.pure rfl rfl rfl ?_) | refine Pw.inY rfl ?_ | refine Pw.list (Pw.off rfl rfl ?_) | refine Pw.condT rfl ?_ | refine Pw.condF rfl ?_ | refine Pw.list (Pw.box rfl rfl rfl rfl (fun _ => ?_)) | refine Pw.list (Pw.alloc rfl rfl rfl rfl rfl (fun _ => ?_)) | refine Pw.list (Pw.build rfl rfl rfl rfl ?_) | refine Pw.list (Pw.ld rfl inferInstance rfl rfl rfl ?_) | refine Pw.list (Pw.sto rfl rfl inferInstance rfl rfl rfl rfl rfl inferInstance rfl ?_))
  refine Pw.condD rfl (fun c3 => ?_) (fun c3 => ?_)
  · obtain ⟨p, hp, hm⟩ := get_at (show i < l.length by omega)
    refine Pw.use (p := A.isSome = true) (fun w h => (fact0 h).has (Int.natCast_nonneg i) c3) (fun hA => ?_)
    refine Pw.use (p := B.isSome = true) (fun w h => (fact1 h).has (Int.natCast_nonneg i) c3) (fun hB => ?_)
    obtain ⟨ad, rfl⟩ := Option.isSome_iff_exists.1 hA
    obtain ⟨bd, rfl⟩ := Option.isSome_iff_exists.1 hB
    repeat (first | (with_reducible first | refine Pw.seq ?_ | refine Pw.region ?_ | refine Pw.nil ?_ | refine Pw.then_ ?_ | refine Pw.skip ?_ | refine Pw.block ?_ | refine Pw.exit ?_ | refine Pw.inX ?_ | refine Pw.inN ?_ | refine Pw.inR ?_ | refine Pw.thenX ?_ | refine Pw.thenR ?_ | refine Pw.ret ?_) | refine Pw.list (Pw.pure rfl rfl rfl ?_) | refine Pw.inY rfl ?_ | refine Pw.list (Pw.off rfl rfl ?_) | refine Pw.condT rfl ?_ | refine Pw.condF rfl ?_ | refine Pw.list (Pw.box rfl rfl rfl rfl (fun _ => ?_)) | refine Pw.list (Pw.alloc rfl rfl rfl rfl rfl (fun _ => ?_)) | refine Pw.list (Pw.build rfl rfl rfl rfl ?_) | refine Pw.list (Pw.ld rfl inferInstance rfl rfl rfl ?_) | refine Pw.list (Pw.sto rfl rfl inferInstance rfl rfl rfl rfl rfl inferInstance rfl ?_))
    refine Pw.drawnG mixed rfl rfl ?_
    refine Pw.takeP 0 (nb 9 1) rfl rfl rfl rfl (by kernel_rfl) np sf ?_
    refine Pw.takeP 1 (nb 9 3) rfl rfl rfl rfl (by kernel_rfl) np sf ?_
    refine Pw.takeIx 2 (nb 9 7) rfl rfl rfl rfl rfl (by first | assumption | omega) (by first | assumption | omega) rfl rfl (by kernel_rfl) np sf ?_
    refine Pw.takeLA p 3 (nb 9 15) rfl rfl inferInstance rfl (by first | assumption | (rw [Int.toNat_natCast]; assumption)) (by kernel_rfl) rfl rfl (by kernel_rfl) np sf ?_
    refine Pw.takeP 4 (nb 9 31) rfl rfl rfl rfl (by kernel_rfl) np sf ?_
    refine Pw.takeP 5 (nb 9 63) rfl rfl rfl rfl (by kernel_rfl) np sf ?_
    refine Pw.takeIx 6 (nb 9 127) rfl rfl rfl rfl rfl (by first | assumption | omega) (by first | assumption | omega) rfl rfl (by kernel_rfl) np sf ?_
    refine Pw.takeLA p 7 (nb 9 255) rfl rfl inferInstance rfl (by first | assumption | (rw [Int.toNat_natCast]; assumption)) (by kernel_rfl) rfl rfl (by kernel_rfl) np sf ?_
    refine Pw.takeNeq2 8 (nb 9 511) rfl rfl rfl (by kernel_rfl) rfl rfl (by kernel_rfl) np sf ?_
    refine Pw.done (by kernel_rfl) ?_
    refine Pw.re (d := 24) (v' := .bool false) rfl (by simp) ?_
    repeat (first | (with_reducible first | refine Pw.seq ?_ | refine Pw.region ?_ | refine Pw.nil ?_ | refine Pw.then_ ?_ | refine Pw.skip ?_ | refine Pw.block ?_ | refine Pw.exit ?_ | refine Pw.inX ?_ | refine Pw.inN ?_ | refine Pw.inR ?_ | refine Pw.thenX ?_ | refine Pw.thenR ?_ | refine Pw.ret ?_) | refine Pw.list (Pw.pure rfl rfl rfl ?_) | refine Pw.inY rfl ?_ | refine Pw.list (Pw.off rfl rfl ?_) | refine Pw.condT rfl ?_ | refine Pw.condF rfl ?_ | refine Pw.list (Pw.box rfl rfl rfl rfl (fun _ => ?_)) | refine Pw.list (Pw.alloc rfl rfl rfl rfl rfl (fun _ => ?_)) | refine Pw.list (Pw.build rfl rfl rfl rfl ?_) | refine Pw.list (Pw.ld rfl inferInstance rfl rfl rfl ?_) | refine Pw.list (Pw.sto rfl rfl inferInstance rfl rfl rfl rfl rfl inferInstance rfl ?_))
    refine Pw.re (d := 13) (v' := .int .i64 ((i + 1 : Nat) : Int)) rfl (congrArg (Value.int .i64) (i64s (by omega) htop)) ?_
    exact Pw.again (i + 1) (by omega) (by show l.length - (i + 1) < l.length - i; omega) ⟨rfl, rfl, rfl, rfl, trivial⟩ rfl (fun w h => h)
  · repeat (first | (with_reducible first | refine Pw.seq ?_ | refine Pw.region ?_ | refine Pw.nil ?_ | refine Pw.then_ ?_ | refine Pw.skip ?_ | refine Pw.block ?_ | refine Pw.exit ?_ | refine Pw.inX ?_ | refine Pw.inN ?_ | refine Pw.inR ?_ | refine Pw.thenX ?_ | refine Pw.thenR ?_ | refine Pw.ret ?_) | refine Pw.list (Pw.pure rfl rfl rfl ?_) | refine Pw.inY rfl ?_ | refine Pw.list (Pw.off rfl rfl ?_) | refine Pw.condT rfl ?_ | refine Pw.condF rfl ?_ | refine Pw.list (Pw.box rfl rfl rfl rfl (fun _ => ?_)) | refine Pw.list (Pw.alloc rfl rfl rfl rfl rfl (fun _ => ?_)) | refine Pw.list (Pw.build rfl rfl rfl rfl ?_) | refine Pw.list (Pw.ld rfl inferInstance rfl rfl rfl ?_) | refine Pw.list (Pw.sto rfl rfl inferInstance rfl rfl rfl rfl rfl inferInstance rfl ?_))
    exact Pw.ret_ (x := ()) (.tmp rfl .nil) rfl trivial (fun w h => by trivial)
end Go.Proofs.Wk
/- Exposures: a part found; the document's order. -/
namespace Go.Proofs.Wk
open Go.RowKit Go.Sort
set_option maxRecDepth 100000
set_option maxHeartbeats 1000000
attribute [local irreducible] Pw OpG
set_option linter.unusedVariables false
set_option linter.unusedSimpArgs false
theorem pPart_ct (x : Ex) (k : Int) : Ct Try.prog 56 #[exV x, .int .i64 k] (exF x) (fun _ : Unit => .int .u64 (partX x k)) Tt (fun _ _ => True) := by
  obtain ⟨id, com, own, oth, ⟨A, c⟩⟩ := x
  refine Ct.start Try.func56 rfl rfl (slots_of rfl slots2) (fun D w0 => ?_)
  refine Pw.use (p := oth.length ≤ maxLen) (fun w h => (fact0 h).top) (fun htop => ?_)
  have htop := top63 htop
  repeat (first | (with_reducible first | refine Pw.seq ?_ | refine Pw.region ?_ | refine Pw.nil ?_ | refine Pw.then_ ?_ | refine Pw.skip ?_ | refine Pw.block ?_ | refine Pw.exit ?_ | refine Pw.inX ?_ | refine Pw.inN ?_ | refine Pw.inR ?_ | refine Pw.thenX ?_ | refine Pw.thenR ?_ | refine Pw.ret ?_) | refine Pw.list (Pw.pure rfl rfl rfl ?_) | refine Pw.inY rfl ?_ | refine Pw.list (Pw.off rfl rfl ?_) | refine Pw.condT rfl ?_ | refine Pw.condF rfl ?_)
  refine Pw.list (Pw.box rfl rfl rfl rfl (fun g1 => freeHead ?_))
  refine Pw.list (Pw.box rfl rfl rfl rfl (fun g2 => freeHead ?_))
  repeat (first | (with_reducible first | refine Pw.seq ?_ | refine Pw.region ?_ | refine Pw.nil ?_ | refine Pw.then_ ?_ | refine Pw.skip ?_ | refine Pw.block ?_ | refine Pw.exit ?_ | refine Pw.inX ?_ | refine Pw.inN ?_ | refine Pw.inR ?_ | refine Pw.thenX ?_ | refine Pw.thenR ?_ | refine Pw.ret ?_) | refine Pw.list (Pw.pure rfl rfl rfl ?_) | refine Pw.inY rfl ?_ | refine Pw.list (Pw.off rfl rfl ?_) | refine Pw.condT rfl ?_ | refine Pw.condF rfl ?_ | refine Pw.list (Pw.box rfl rfl rfl rfl (fun _ => ?_)) | refine Pw.list (Pw.alloc rfl rfl rfl rfl rfl (fun _ => ?_)) | refine Pw.list (Pw.build rfl rfl rfl rfl ?_) | refine Pw.list (Pw.ld rfl inferInstance rfl rfl rfl ?_) | refine Pw.list (Pw.sto rfl rfl inferInstance rfl rfl rfl rfl rfl inferInstance rfl ?_))
  refine Pw.condD rfl (fun c1 => ?_) (fun c1 => ?_)
  · repeat (first | (with_reducible first | refine Pw.seq ?_ | refine Pw.region ?_ | refine Pw.nil ?_ | refine Pw.then_ ?_ | refine Pw.skip ?_ | refine Pw.block ?_ | refine Pw.exit ?_ | refine Pw.inX ?_ | refine Pw.inN ?_ | refine Pw.inR ?_ | refine Pw.thenX ?_ | refine Pw.thenR ?_ | refine Pw.ret ?_) | refine Pw.list (Pw.pure rfl rfl rfl ?_) | refine Pw.inY rfl ?_ | refine Pw.list (Pw.off rfl rfl ?_) | refine Pw.condT rfl ?_ | refine Pw.condF rfl ?_ | refine Pw.list (Pw.box rfl rfl rfl rfl (fun _ => ?_)) | refine Pw.list (Pw.alloc rfl rfl rfl rfl rfl (fun _ => ?_)) | refine Pw.list (Pw.build rfl rfl rfl rfl ?_) | refine Pw.list (Pw.ld rfl inferInstance rfl rfl rfl ?_) | refine Pw.list (Pw.sto rfl rfl inferInstance rfl rfl rfl rfl rfl inferInstance rfl ?_))
    exact Pw.ret_ (x := ()) (.tmp rfl .nil) (congrArg (Value.int .u64) (if_pos c1).symm) trivial (fun w h => by trivial)
  repeat (first | (with_reducible first | refine Pw.seq ?_ | refine Pw.region ?_ | refine Pw.nil ?_ | refine Pw.then_ ?_ | refine Pw.skip ?_ | refine Pw.block ?_ | refine Pw.exit ?_ | refine Pw.inX ?_ | refine Pw.inN ?_ | refine Pw.inR ?_ | refine Pw.thenX ?_ | refine Pw.thenR ?_ | refine Pw.ret ?_) | refine Pw.list (Pw.pure rfl rfl rfl ?_) | refine Pw.inY rfl ?_ | refine Pw.list (Pw.off rfl rfl ?_) | refine Pw.condT rfl ?_ | refine Pw.condF rfl ?_ | refine Pw.list (Pw.box rfl rfl rfl rfl (fun _ => ?_)) | refine Pw.list (Pw.alloc rfl rfl rfl rfl rfl (fun _ => ?_)) | refine Pw.list (Pw.build rfl rfl rfl rfl ?_) | refine Pw.list (Pw.ld rfl inferInstance rfl rfl rfl ?_) | refine Pw.list (Pw.sto rfl rfl inferInstance rfl rfl rfl rfl rfl inferInstance rfl ?_))
  refine Pw.list (Pw.call (IndexP_ct oth (A, c) 101 (.pointer (some ⟨g2, 0, none⟩)) (fun p : Pt => decide (p.1 = k)) (fun W => W.heap[g2]? = some (row [.int .i64 k] 3)) (fun v _ => part1_ct v k g2) (by kernel_rfl)) rfl rfl rfl (by kernel_rfl) rfl rfl (fun w h => ⟨(hv w h), (by first | exact fact0 (h) | exact fact0 (allTail (h)) | exact fact0 (allTail (allTail (h))) | exact fact0 (allTail (allTail (allTail (h)))) | exact fact0 (allTail (allTail (allTail (allTail (h))))) | exact fact0 (allTail (allTail (allTail (allTail (allTail (h)))))) | exact fact0 (allTail (allTail (allTail (allTail (allTail (allTail (h))))))) | exact fact0 (allTail (allTail (allTail (allTail (allTail (allTail (allTail (h)))))))) | exact fact0 (allTail (allTail (allTail (allTail (allTail (allTail (allTail (allTail (h))))))))) | exact fact0 (allTail (allTail (allTail (allTail (allTail (allTail (allTail (allTail (allTail (h)))))))))))⟩) ?_)
  intro _ _
  have ep : partX ⟨id, com, own, oth, (A, c)⟩ k = match oth.find? (fun p : Pt => decide (p.1 = k)) with | some p => p.2 | none => 0 := by unfold partX; rw [if_neg c1]; rfl
  rcases ixI_cases (fun p : Pt => decide (p.1 = k)) oth with ⟨h1, h2⟩ | ⟨i, p, h1, h2, h3, h4⟩
  · rw [h1]
    repeat (first | (with_reducible first | refine Pw.seq ?_ | refine Pw.region ?_ | refine Pw.nil ?_ | refine Pw.then_ ?_ | refine Pw.skip ?_ | refine Pw.block ?_ | refine Pw.exit ?_ | refine Pw.inX ?_ | refine Pw.inN ?_ | refine Pw.inR ?_ | refine Pw.thenX ?_ | refine Pw.thenR ?_ | refine Pw.ret ?_) | refine Pw.list (Pw.pure rfl rfl rfl ?_) | refine Pw.inY rfl ?_ | refine Pw.list (Pw.off rfl rfl ?_) | refine Pw.condT rfl ?_ | refine Pw.condF rfl ?_ | refine Pw.list (Pw.box rfl rfl rfl rfl (fun _ => ?_)) | refine Pw.list (Pw.alloc rfl rfl rfl rfl rfl (fun _ => ?_)) | refine Pw.list (Pw.build rfl rfl rfl rfl ?_) | refine Pw.list (Pw.ld rfl inferInstance rfl rfl rfl ?_) | refine Pw.list (Pw.sto rfl rfl inferInstance rfl rfl rfl rfl rfl inferInstance rfl ?_))
    exact Pw.ret_ (x := ()) (.tmp rfl .nil) (congrArg (Value.int .u64) (by rw [ep, h2])) trivial (fun w h => by trivial)
  · rw [h1]
    have hlt := (List.getElem?_eq_some_iff.1 h2).1
    repeat (first | (with_reducible first | refine Pw.seq ?_ | refine Pw.region ?_ | refine Pw.nil ?_ | refine Pw.then_ ?_ | refine Pw.skip ?_ | refine Pw.block ?_ | refine Pw.exit ?_ | refine Pw.inX ?_ | refine Pw.inN ?_ | refine Pw.inR ?_ | refine Pw.thenX ?_ | refine Pw.thenR ?_ | refine Pw.ret ?_) | refine Pw.list (Pw.pure rfl rfl rfl ?_) | refine Pw.inY rfl ?_ | refine Pw.list (Pw.off rfl rfl ?_) | refine Pw.condT rfl ?_ | refine Pw.condF rfl ?_ | refine Pw.list (Pw.box rfl rfl rfl rfl (fun _ => ?_)) | refine Pw.list (Pw.alloc rfl rfl rfl rfl rfl (fun _ => ?_)) | refine Pw.list (Pw.build rfl rfl rfl rfl ?_) | refine Pw.list (Pw.ld rfl inferInstance rfl rfl rfl ?_) | refine Pw.list (Pw.sto rfl rfl inferInstance rfl rfl rfl rfl rfl inferInstance rfl ?_))
    refine Pw.list (Pw.index rfl rfl rfl rfl (Int.natCast_nonneg i) (show (i : Int) < (oth.length : Int) by omega) (fun w h => (hv w h : PS oth (A, c) w).has (Int.natCast_nonneg i) (show (i : Int) < (oth.length : Int) by omega)) rfl rfl ?_)
    rintro ad rfl
    refine Pw.list (Pw.fieldS rfl rfl rfl rfl rfl rfl rfl ?_)
    refine Pw.list (Pw.loadF p rfl inferInstance rfl (by rw [Int.toNat_natCast]; exact h2) rfl rfl rfl rfl ?_)
    repeat (first | (with_reducible first | refine Pw.seq ?_ | refine Pw.region ?_ | refine Pw.nil ?_ | refine Pw.then_ ?_ | refine Pw.skip ?_ | refine Pw.block ?_ | refine Pw.exit ?_ | refine Pw.inX ?_ | refine Pw.inN ?_ | refine Pw.inR ?_ | refine Pw.thenX ?_ | refine Pw.thenR ?_ | refine Pw.ret ?_) | refine Pw.list (Pw.pure rfl rfl rfl ?_) | refine Pw.inY rfl ?_ | refine Pw.list (Pw.off rfl rfl ?_) | refine Pw.condT rfl ?_ | refine Pw.condF rfl ?_ | refine Pw.list (Pw.box rfl rfl rfl rfl (fun _ => ?_)) | refine Pw.list (Pw.alloc rfl rfl rfl rfl rfl (fun _ => ?_)) | refine Pw.list (Pw.build rfl rfl rfl rfl ?_) | refine Pw.list (Pw.ld rfl inferInstance rfl rfl rfl ?_) | refine Pw.list (Pw.sto rfl rfl inferInstance rfl rfl rfl rfl rfl inferInstance rfl ?_))
    exact Pw.ret_ (x := ()) (.tmp rfl .nil) (congrArg (Value.int .u64) (by rw [ep, h4])) trivial (fun w h => by trivial)
theorem ahead_ct (a b : Pt) : Ct Try.prog 98 #[ptV a, ptV b] (fun _ => True) (fun _ : Unit => .bool (aheadP a b)) Tt (fun _ _ => True) := by
  refine Ct.start Try.func98 rfl rfl (slots_of rfl slots2) (fun D w0 => ?_)
  repeat (first | (with_reducible first | refine Pw.seq ?_ | refine Pw.region ?_ | refine Pw.nil ?_ | refine Pw.then_ ?_ | refine Pw.skip ?_ | refine Pw.block ?_ | refine Pw.exit ?_ | refine Pw.inX ?_ | refine Pw.inN ?_ | refine Pw.inR ?_ | refine Pw.thenX ?_ | refine Pw.thenR ?_ | refine Pw.ret ?_) | refine Pw.list (Pw.pure rfl rfl rfl ?_) | refine Pw.inY rfl ?_ | refine Pw.list (Pw.off rfl rfl ?_) | refine Pw.condT rfl ?_ | refine Pw.condF rfl ?_)
  refine Pw.list (Pw.box rfl rfl rfl rfl (fun g1 => freeHead ?_))
  refine Pw.list (Pw.box rfl rfl rfl rfl (fun g2 => freeHead ?_))
  repeat (first | (with_reducible first | refine Pw.seq ?_ | refine Pw.region ?_ | refine Pw.nil ?_ | refine Pw.then_ ?_ | refine Pw.skip ?_ | refine Pw.block ?_ | refine Pw.exit ?_ | refine Pw.inX ?_ | refine Pw.inN ?_ | refine Pw.inR ?_ | refine Pw.thenX ?_ | refine Pw.thenR ?_ | refine Pw.ret ?_) | refine Pw.list (Pw.pure rfl rfl rfl ?_) | refine Pw.inY rfl ?_ | refine Pw.list (Pw.off rfl rfl ?_) | refine Pw.condT rfl ?_ | refine Pw.condF rfl ?_ | refine Pw.list (Pw.box rfl rfl rfl rfl (fun _ => ?_)) | refine Pw.list (Pw.alloc rfl rfl rfl rfl rfl (fun _ => ?_)) | refine Pw.list (Pw.build rfl rfl rfl rfl ?_) | refine Pw.list (Pw.ld rfl inferInstance rfl rfl rfl ?_) | refine Pw.list (Pw.sto rfl rfl inferInstance rfl rfl rfl rfl rfl inferInstance rfl ?_))
  refine Pw.split 10 rfl (fun c1 => ?_) (fun c1 => ?_)
  · repeat (first | (with_reducible first | refine Pw.seq ?_ | refine Pw.region ?_ | refine Pw.nil ?_ | refine Pw.then_ ?_ | refine Pw.skip ?_ | refine Pw.block ?_ | refine Pw.exit ?_ | refine Pw.inX ?_ | refine Pw.inN ?_ | refine Pw.inR ?_ | refine Pw.thenX ?_ | refine Pw.thenR ?_ | refine Pw.ret ?_) | refine Pw.list (Pw.pure rfl rfl rfl ?_) | refine Pw.inY rfl ?_ | refine Pw.list (Pw.off rfl rfl ?_) | refine Pw.condT rfl ?_ | refine Pw.condF rfl ?_ | refine Pw.list (Pw.box rfl rfl rfl rfl (fun _ => ?_)) | refine Pw.list (Pw.alloc rfl rfl rfl rfl rfl (fun _ => ?_)) | refine Pw.list (Pw.build rfl rfl rfl rfl ?_) | refine Pw.list (Pw.ld rfl inferInstance rfl rfl rfl ?_) | refine Pw.list (Pw.sto rfl rfl inferInstance rfl rfl rfl rfl rfl inferInstance rfl ?_))
    exact Pw.ret_ (x := ()) (.tmp rfl .nil) (congrArg Value.bool (aheadP_iff.2 (.inl c1)).symm) trivial (fun w h => by trivial)
  repeat (first | (with_reducible first | refine Pw.seq ?_ | refine Pw.region ?_ | refine Pw.nil ?_ | refine Pw.then_ ?_ | refine Pw.skip ?_ | refine Pw.block ?_ | refine Pw.exit ?_ | refine Pw.inX ?_ | refine Pw.inN ?_ | refine Pw.inR ?_ | refine Pw.thenX ?_ | refine Pw.thenR ?_ | refine Pw.ret ?_) | refine Pw.list (Pw.pure rfl rfl rfl ?_) | refine Pw.inY rfl ?_ | refine Pw.list (Pw.off rfl rfl ?_) | refine Pw.condT rfl ?_ | refine Pw.condF rfl ?_ | refine Pw.list (Pw.box rfl rfl rfl rfl (fun _ => ?_)) | refine Pw.list (Pw.alloc rfl rfl rfl rfl rfl (fun _ => ?_)) | refine Pw.list (Pw.build rfl rfl rfl rfl ?_) | refine Pw.list (Pw.ld rfl inferInstance rfl rfl rfl ?_) | refine Pw.list (Pw.sto rfl rfl inferInstance rfl rfl rfl rfl rfl inferInstance rfl ?_))
  refine Pw.split 16 rfl (fun c2 => ?_) (fun c2 => ?_)
  · repeat (first | (with_reducible first | refine Pw.seq ?_ | refine Pw.region ?_ | refine Pw.nil ?_ | refine Pw.then_ ?_ | refine Pw.skip ?_ | refine Pw.block ?_ | refine Pw.exit ?_ | refine Pw.inX ?_ | refine Pw.inN ?_ | refine Pw.inR ?_ | refine Pw.thenX ?_ | refine Pw.thenR ?_ | refine Pw.ret ?_) | refine Pw.list (Pw.pure rfl rfl rfl ?_) | refine Pw.inY rfl ?_ | refine Pw.list (Pw.off rfl rfl ?_) | refine Pw.condT rfl ?_ | refine Pw.condF rfl ?_ | refine Pw.list (Pw.box rfl rfl rfl rfl (fun _ => ?_)) | refine Pw.list (Pw.alloc rfl rfl rfl rfl rfl (fun _ => ?_)) | refine Pw.list (Pw.build rfl rfl rfl rfl ?_) | refine Pw.list (Pw.ld rfl inferInstance rfl rfl rfl ?_) | refine Pw.list (Pw.sto rfl rfl inferInstance rfl rfl rfl rfl rfl inferInstance rfl ?_))
    exact Pw.ret_ (x := ()) (.tmp rfl .nil) (congrArg Value.bool (by
      rw [Bool.eq_iff_iff, decide_eq_true_iff, aheadP_iff]; omega)) trivial (fun w h => by trivial)
  · repeat (first | (with_reducible first | refine Pw.seq ?_ | refine Pw.region ?_ | refine Pw.nil ?_ | refine Pw.then_ ?_ | refine Pw.skip ?_ | refine Pw.block ?_ | refine Pw.exit ?_ | refine Pw.inX ?_ | refine Pw.inN ?_ | refine Pw.inR ?_ | refine Pw.thenX ?_ | refine Pw.thenR ?_ | refine Pw.ret ?_) | refine Pw.list (Pw.pure rfl rfl rfl ?_) | refine Pw.inY rfl ?_ | refine Pw.list (Pw.off rfl rfl ?_) | refine Pw.condT rfl ?_ | refine Pw.condF rfl ?_ | refine Pw.list (Pw.box rfl rfl rfl rfl (fun _ => ?_)) | refine Pw.list (Pw.alloc rfl rfl rfl rfl rfl (fun _ => ?_)) | refine Pw.list (Pw.build rfl rfl rfl rfl ?_) | refine Pw.list (Pw.ld rfl inferInstance rfl rfl rfl ?_) | refine Pw.list (Pw.sto rfl rfl inferInstance rfl rfl rfl rfl rfl inferInstance rfl ?_))
    exact Pw.ret_ (x := ()) (.tmp rfl .nil) (congrArg Value.bool (by
      rw [Bool.eq_iff_iff, aheadP_iff]; simp; omega)) trivial (fun w h => by trivial)
/-! ### Inserted one by one, as sorted -/
def Fall (l : List Pt) : Prop := l.Pairwise (fun a b => aheadP b a = false)
theorem srt_fall (l : List Pt) : Fall (srt l) := by
  have h := List.pairwise_mergeSort (le := fun x y => !(ltOf cfP) y x) (fun a b c h1 h2 => by
    rw [Bool.not_eq_true', ltP, ← Bool.not_eq_true, aheadP_iff] at *; omega) (fun a b => by
    rw [Bool.or_eq_true, Bool.not_eq_true', Bool.not_eq_true', ltP, ltP, ← Bool.not_eq_true, ← Bool.not_eq_true, aheadP_iff, aheadP_iff]; omega) l
  exact h.imp (fun {a b} hab => by rw [Bool.not_eq_true', ltP] at hab; exact hab)
theorem fall_srt {l m : List Pt} (h : Fall m) (hp : m.Perm l) : m = srt l :=
  List.Perm.eq_of_pairwise (le := fun a b => aheadP b a = false) (fun a b _ _ h1 h2 => totP a b (by rw [ltP]; exact h2) (by rw [ltP]; exact h1)) h (srt_fall l) (hp.trans (srt_perm l).symm)
theorem ahead_tr {a b c : Pt} (h1 : aheadP b a = false) (h2 : aheadP c b = false) : aheadP c a = false := by
  rw [← Bool.not_eq_true, aheadP_iff] at *; omega
theorem ahead_as {a b : Pt} (h : aheadP a b = true) : aheadP b a = false := by
  rw [aheadP_iff] at h; rw [← Bool.not_eq_true, aheadP_iff]; omega
theorem ins_fall {l : List Pt} {p : Pt} {k : Nat} (h : Fall l) (h1 : ∀ j, j < k → ∀ y, l[j]? = some y → aheadP y p = true) (h2 : ∀ y, l[k]? = some y → aheadP y p = false) : Fall (l.take k ++ [p] ++ l.drop k) := by
  unfold Fall at h ⊢
  rw [← List.take_append_drop k l, List.pairwise_append] at h
  obtain ⟨ha, hb, hab⟩ := h
  have hd : ∀ y ∈ l.drop k, aheadP y p = false := by
    intro y hy
    rcases hdk : l.drop k with _ | ⟨z, r⟩
    · rw [hdk] at hy; cases hy
    · have hz : l[k]? = some z := by
        have := congrArg (fun t => t[0]?) hdk
        simpa using this
      rw [hdk] at hb hy
      rcases List.mem_cons.1 hy with rfl | hy
      · exact h2 _ hz
      · exact ahead_tr (h2 z hz) ((List.pairwise_cons.1 hb).1 y hy)
  have ht : ∀ y ∈ l.take k, aheadP p y = false := by
    intro y hy
    obtain ⟨j, hj⟩ := List.getElem?_of_mem hy
    have hjl := (List.getElem?_eq_some_iff.1 hj).1
    rw [List.length_take] at hjl
    rw [List.getElem?_take_of_lt (by omega)] at hj
    exact ahead_as (h1 j (by omega) y hj)
  rw [List.append_assoc, List.pairwise_append]
  refine ⟨ha, ?_, ?_⟩
  · rw [List.singleton_append, List.pairwise_cons]; exact ⟨hd, hb⟩
  · intro a ha' b hb'
    rw [List.singleton_append] at hb'
    rcases List.mem_cons.1 hb' with rfl | hb'
    · exact ht a ha'
    · exact hab a ha' b hb'
theorem ins_perm {l : List Pt} {p : Pt} {k : Nat} : (l.take k ++ [p] ++ l.drop k).Perm (l ++ [p]) := by
  have h1 : (l.take k ++ [p] ++ l.drop k).Perm (l.take k ++ (l.drop k ++ [p])) := by
    rw [List.append_assoc]; exact (List.Perm.append_left _ List.perm_append_comm)
  rw [← List.append_assoc, List.take_append_drop] at h1
  exact h1
end Go.Proofs.Wk
/- Exposures: plain facts of the document's pages. -/
namespace Go.Proofs.Wk
open Go.Sort Go.RowKit
set_option linter.unusedVariables false
set_option linter.unusedSimpArgs false
def curP (h : Pt) (l : List Pt) (k i D : Nat) : List Pt := (if D = 0 then [h] else []) ++ (l.drop (D * k)).take (i - D * k)
def pgAt (h : Pt) (l : List Pt) (k j : Nat) : List Pt := if j = 0 then h :: l.take k else chunkAt k l j
theorem cur_snoc {h : Pt} {l : List Pt} {k i D : Nat} {p : Pt} (hi : l[i]? = some p) (hD : D * k ≤ i) : curP h l k (i + 1) D = curP h l k i D ++ [p] := by
  unfold curP
  rw [List.append_assoc, show i + 1 - D * k = (i - D * k) + 1 by omega, take_snoc (x := p)]
  rw [List.getElem?_drop, show D * k + (i - D * k) = i by omega]; exact hi
theorem cur_full {h : Pt} {l : List Pt} {k i D : Nat} (hi : i - D * k = k) : curP h l k i D = pgAt h l k D := by
  unfold curP pgAt chunkAt
  rw [hi]
  split
  · rename_i e; subst e; simp
  · simp
theorem cur_last {h : Pt} {l : List Pt} {k D : Nat} (hi : l.length - D * k ≤ k) : curP h l k l.length D = pgAt h l k D := by
  unfold curP pgAt chunkAt
  rw [List.take_of_length_le (l := l.drop (D * k)) (by rw [List.length_drop]; omega)]
  split
  · rename_i e; subst e; simp; rw [List.take_of_length_le (by omega)]
  · rw [List.take_of_length_le (by rw [List.length_drop]; omega)]; simp
theorem cur_zero {h : Pt} {l : List Pt} {k i D : Nat} (hi : i = (D + 1) * k) : curP h l k i (D + 1) = [] := by
  unfold curP; rw [if_neg (by omega), ← hi, Nat.sub_self]; simp
theorem cur_len {h : Pt} {l : List Pt} {k i D : Nat} : (curP h l k i D).length ≤ 1 + l.length := by
  unfold curP
  rw [List.length_append, List.length_take, List.length_drop]
  split <;> simp <;> omega
theorem pages_pgAt (x : Ex) (k : Nat) : pagesS x k = (List.range (1 + nCh k (x.oth.length - k))).map (pgAt (x.id, x.own) (srt x.oth) k) := by
  unfold pagesS chunks
  rw [List.length_drop, srt_len, Nat.add_comm 1, List.range_succ_eq_map, List.map_cons, List.map_map]
  refine congr (congrArg List.cons (by unfold pgAt; rw [if_pos rfl])) (List.map_congr_left fun j _ => ?_)
  show chunkAt k ((srt x.oth).drop k) j = pgAt (x.id, x.own) (srt x.oth) k (j + 1)
  unfold pgAt chunkAt
  rw [if_neg (by omega), List.drop_drop, Nat.add_mul, Nat.one_mul, Nat.add_comm k]
theorem nCh_is {k n D : Nat} (hk : 0 < k) (h1 : n - D * k ≤ k) (h2 : 0 < D → D * k < n) : nCh k (n - k) = D := by
  have a1 : D ≤ nCh k (n - k) := by
    rcases Nat.eq_zero_or_pos D with rfl | h
    · omega
    · obtain ⟨E, rfl⟩ : ∃ E, D = E + 1 := ⟨D - 1, by omega⟩
      have := h2 h
      rw [Nat.add_mul, Nat.one_mul] at this
      have := (nCh_lt hk).2 (show E * k < n - k by omega)
      omega
  rcases Nat.lt_or_ge D (nCh k (n - k)) with h | h
  · have := (nCh_lt hk).1 h; omega
  · omega
theorem set_mid {α : Type} (a : List α) (x y : α) (b : List α) : (a ++ [x] ++ b).set a.length y = a ++ [y] ++ b := by
  rw [List.append_assoc, List.set_append_right _ _ (Nat.le_refl _), Nat.sub_self, List.append_assoc]; rfl
theorem cellsPg_snoc (l : List Pg) (p : Pg) : cellsPg (l ++ [p]) = cellsPg l ++ [pgV p] := by unfold cellsPg; simp [encPg]
end Go.Proofs.Wk
/- Exposures: the document's pages walked. -/
namespace Go.Proofs.Wk
open Go.RowKit Go.Sort
set_option maxRecDepth 100000
set_option maxHeartbeats 4000000
attribute [local irreducible] Pw OpG
set_option linter.unusedVariables false
set_option linter.unusedSimpArgs false
theorem permHead {b : Blk} {l : List Blk} : (b :: l).Perm (l ++ [b]) := List.perm_append_comm (l₁ := [b])
abbrev gLL (q2 : Gr) (c2 : List Value) (e2 : TypeId) (q1 : Gr) (c1 : List Value) (e1 : TypeId) : List Blk := gL q2 c2 e2 ++ gL q1 c1 e1
def outC (dn : List Pg) (v : Value) : List Value := cellsPg dn ++ [v]
theorem outC_len (dn : List Pg) (v : Value) : (outC dn v).length = dn.length + 1 := by unfold outC; rw [List.length_append, cellsPg_len]; simp
theorem outC_get (dn : List Pg) (v : Value) (ex : List Value) : (outC dn v ++ ex)[dn.length]? = some v := by
  unfold outC
  have : (cellsPg dn).length = dn.length := by rw [cellsPg_len]; omega
  rw [List.append_assoc, List.getElem?_append_right (by omega), this, Nat.sub_self]; rfl
theorem outC_set (dn : List Pg) (v u : Value) (ex : List Value) : (outC dn v ++ ex).set dn.length u = outC dn u ++ ex := by
  unfold outC
  have : (cellsPg dn).length = dn.length := by rw [cellsPg_len]; omega
  rw [← this]; exact set_mid ..
theorem outC_ok {dn : List Pg} {v u : Value} {q : Gr} (h : gOk q (outC dn v) (dn.length + 1) 1) : gOk q (outC dn u) (dn.length + 1) 1 := by
  obtain _ | ⟨g, cap, ex⟩ := q
  · cases h.1
  · obtain ⟨h1, h2, h3⟩ := h
    rw [List.length_append, outC_len] at h3
    exact ⟨by rw [outC_len]; omega, h2, by rw [List.length_append, outC_len]; exact h3⟩
def Jp (h : Pt) (l : List Pt) (k i : Nat) (dn : List Pg) (q2 q1 : Gr) : Prop := dn.length * k ≤ i ∧ dn.map Prod.fst = (List.range dn.length).map (pgAt h l k) ∧ gOk q2 (cellsP (curP h l k i dn.length)) (curP h l k i dn.length).length 2 ∧ gOk q1 (outC dn (gv q2 (curP h l k i dn.length).length)) (dn.length + 1) 1
theorem rPages_ct (x : Ex) (hx : ExW x) (hl : x.oth.length ≤ 1000) (size : Int) (hs : size ≤ 9223372036854775807) :
    Ct Try.prog 53 #[exV x, .int .i64 size] (exF x) (fun r : List Pg × (Option Addr × Nat) => .tuple #[.slice r.2.1 (pagesR x size).1.length r.2.2, .int .i64 (pagesR x size).2]) (fun r => r.1.map Prod.fst = (pagesR x size).1) (fun r => PGS r.1 r.2) := by
  refine Ct.start Try.func53 rfl rfl (slots_of rfl slots2) (fun D w0 => ?_)
  repeat (first | (with_reducible first | refine Pw.seq ?_ | refine Pw.region ?_ | refine Pw.nil ?_ | refine Pw.then_ ?_ | refine Pw.skip ?_ | refine Pw.block ?_ | refine Pw.exit ?_ | refine Pw.inX ?_ | refine Pw.inN ?_ | refine Pw.inR ?_ | refine Pw.thenX ?_ | refine Pw.thenR ?_ | refine Pw.ret ?_) | refine Pw.list (Pw.pure rfl rfl rfl ?_) | refine Pw.inY rfl ?_ | refine Pw.list (Pw.off rfl rfl ?_) | refine Pw.condT rfl ?_ | refine Pw.condF rfl ?_)
  refine Pw.list (Pw.box rfl rfl rfl rfl (fun g2 => freeHead ?_))
  repeat (first | (with_reducible first | refine Pw.seq ?_ | refine Pw.region ?_ | refine Pw.nil ?_ | refine Pw.then_ ?_ | refine Pw.skip ?_ | refine Pw.block ?_ | refine Pw.exit ?_ | refine Pw.inX ?_ | refine Pw.inN ?_ | refine Pw.inR ?_ | refine Pw.thenX ?_ | refine Pw.thenR ?_ | refine Pw.ret ?_) | refine Pw.list (Pw.pure rfl rfl rfl ?_) | refine Pw.inY rfl ?_ | refine Pw.list (Pw.off rfl rfl ?_) | refine Pw.condT rfl ?_ | refine Pw.condF rfl ?_ | refine Pw.list (Pw.box rfl rfl rfl rfl (fun _ => ?_)) | refine Pw.list (Pw.alloc rfl rfl rfl rfl rfl (fun _ => ?_)) | refine Pw.list (Pw.build rfl rfl rfl rfl ?_) | refine Pw.list (Pw.ld rfl inferInstance rfl rfl rfl ?_) | refine Pw.list (Pw.sto rfl rfl inferInstance rfl rfl rfl rfl rfl inferInstance rfl ?_))
  refine Pw.list (Pw.call (rFormed_ct x) rfl rfl rfl (by kernel_rfl) rfl rfl (fun w h => (hv w h)) ?_)
  intro _ _
  cases hF : formX x
  · have e : pagesR x size = ([], 1) := if_pos (.inr hF)
    repeat (first | (with_reducible first | refine Pw.seq ?_ | refine Pw.region ?_ | refine Pw.nil ?_ | refine Pw.then_ ?_ | refine Pw.skip ?_ | refine Pw.block ?_ | refine Pw.exit ?_ | refine Pw.inX ?_ | refine Pw.inN ?_ | refine Pw.inR ?_ | refine Pw.thenX ?_ | refine Pw.thenR ?_ | refine Pw.ret ?_) | refine Pw.list (Pw.pure rfl rfl rfl ?_) | refine Pw.inY rfl ?_ | refine Pw.list (Pw.off rfl rfl ?_) | refine Pw.condT rfl ?_ | refine Pw.condF rfl ?_ | refine Pw.list (Pw.box rfl rfl rfl rfl (fun _ => ?_)) | refine Pw.list (Pw.alloc rfl rfl rfl rfl rfl (fun _ => ?_)) | refine Pw.list (Pw.build rfl rfl rfl rfl ?_) | refine Pw.list (Pw.ld rfl inferInstance rfl rfl rfl ?_) | refine Pw.list (Pw.sto rfl rfl inferInstance rfl rfl rfl rfl rfl inferInstance rfl ?_))
    exact Pw.ret_ (x := ([], (none, 0))) (.tmp rfl (.tmp rfl .nil)) (by rw [e]; rfl) (by rw [e]; rfl) (fun w h => Rows.nil _ _ _ _ _)
  repeat (first | (with_reducible first | refine Pw.seq ?_ | refine Pw.region ?_ | refine Pw.nil ?_ | refine Pw.then_ ?_ | refine Pw.skip ?_ | refine Pw.block ?_ | refine Pw.exit ?_ | refine Pw.inX ?_ | refine Pw.inN ?_ | refine Pw.inR ?_ | refine Pw.thenX ?_ | refine Pw.thenR ?_ | refine Pw.ret ?_) | refine Pw.list (Pw.pure rfl rfl rfl ?_) | refine Pw.inY rfl ?_ | refine Pw.list (Pw.off rfl rfl ?_) | refine Pw.condT rfl ?_ | refine Pw.condF rfl ?_ | refine Pw.list (Pw.box rfl rfl rfl rfl (fun _ => ?_)) | refine Pw.list (Pw.alloc rfl rfl rfl rfl rfl (fun _ => ?_)) | refine Pw.list (Pw.build rfl rfl rfl rfl ?_) | refine Pw.list (Pw.ld rfl inferInstance rfl rfl rfl ?_) | refine Pw.list (Pw.sto rfl rfl inferInstance rfl rfl rfl rfl rfl inferInstance rfl ?_))
  refine Pw.condD rfl (fun c1 => ?_) (fun c1 => ?_)
  · have e : pagesR x size = ([], 1) := if_pos (.inl c1)
    repeat (first | (with_reducible first | refine Pw.seq ?_ | refine Pw.region ?_ | refine Pw.nil ?_ | refine Pw.then_ ?_ | refine Pw.skip ?_ | refine Pw.block ?_ | refine Pw.exit ?_ | refine Pw.inX ?_ | refine Pw.inN ?_ | refine Pw.inR ?_ | refine Pw.thenX ?_ | refine Pw.thenR ?_ | refine Pw.ret ?_) | refine Pw.list (Pw.pure rfl rfl rfl ?_) | refine Pw.inY rfl ?_ | refine Pw.list (Pw.off rfl rfl ?_) | refine Pw.condT rfl ?_ | refine Pw.condF rfl ?_ | refine Pw.list (Pw.box rfl rfl rfl rfl (fun _ => ?_)) | refine Pw.list (Pw.alloc rfl rfl rfl rfl rfl (fun _ => ?_)) | refine Pw.list (Pw.build rfl rfl rfl rfl ?_) | refine Pw.list (Pw.ld rfl inferInstance rfl rfl rfl ?_) | refine Pw.list (Pw.sto rfl rfl inferInstance rfl rfl rfl rfl rfl inferInstance rfl ?_))
    exact Pw.ret_ (x := ([], (none, 0))) (.tmp rfl (.tmp rfl .nil)) (by rw [e]; rfl) (by rw [e]; rfl) (fun w h => Rows.nil _ _ _ _ _)
  repeat (first | (with_reducible first | refine Pw.seq ?_ | refine Pw.region ?_ | refine Pw.nil ?_ | refine Pw.then_ ?_ | refine Pw.skip ?_ | refine Pw.block ?_ | refine Pw.exit ?_ | refine Pw.inX ?_ | refine Pw.inN ?_ | refine Pw.inR ?_ | refine Pw.thenX ?_ | refine Pw.thenR ?_ | refine Pw.ret ?_) | refine Pw.list (Pw.pure rfl rfl rfl ?_) | refine Pw.inY rfl ?_ | refine Pw.list (Pw.off rfl rfl ?_) | refine Pw.condT rfl ?_ | refine Pw.condF rfl ?_ | refine Pw.list (Pw.box rfl rfl rfl rfl (fun _ => ?_)) | refine Pw.list (Pw.alloc rfl rfl rfl rfl rfl (fun _ => ?_)) | refine Pw.list (Pw.build rfl rfl rfl rfl ?_) | refine Pw.list (Pw.ld rfl inferInstance rfl rfl rfl ?_) | refine Pw.list (Pw.sto rfl rfl inferInstance rfl rfl rfl rfl rfl inferInstance rfl ?_))
  refine Pw.list (Pw.call (rTotal_ct x hx (by omega)) rfl rfl rfl (by kernel_rfl) rfl rfl (fun w h => (hv w h)) ?_)
  intro _ _
  repeat (first | (with_reducible first | refine Pw.seq ?_ | refine Pw.region ?_ | refine Pw.nil ?_ | refine Pw.then_ ?_ | refine Pw.skip ?_ | refine Pw.block ?_ | refine Pw.exit ?_ | refine Pw.inX ?_ | refine Pw.inN ?_ | refine Pw.inR ?_ | refine Pw.thenX ?_ | refine Pw.thenR ?_ | refine Pw.ret ?_) | refine Pw.list (Pw.pure rfl rfl rfl ?_) | refine Pw.inY rfl ?_ | refine Pw.list (Pw.off rfl rfl ?_) | refine Pw.condT rfl ?_ | refine Pw.condF rfl ?_ | refine Pw.list (Pw.box rfl rfl rfl rfl (fun _ => ?_)) | refine Pw.list (Pw.alloc rfl rfl rfl rfl rfl (fun _ => ?_)) | refine Pw.list (Pw.build rfl rfl rfl rfl ?_) | refine Pw.list (Pw.ld rfl inferInstance rfl rfl rfl ?_) | refine Pw.list (Pw.sto rfl rfl inferInstance rfl rfl rfl rfl rfl inferInstance rfl ?_))
  refine Pw.condD rfl (fun c2 => ?_) (fun c2 => ?_)
  · have e : pagesR x size = ([], (totX x).2) := by unfold pagesR; rw [if_neg (by rw [hF]; simp; omega), if_pos c2]
    repeat (first | (with_reducible first | refine Pw.seq ?_ | refine Pw.region ?_ | refine Pw.nil ?_ | refine Pw.then_ ?_ | refine Pw.skip ?_ | refine Pw.block ?_ | refine Pw.exit ?_ | refine Pw.inX ?_ | refine Pw.inN ?_ | refine Pw.inR ?_ | refine Pw.thenX ?_ | refine Pw.thenR ?_ | refine Pw.ret ?_) | refine Pw.list (Pw.pure rfl rfl rfl ?_) | refine Pw.inY rfl ?_ | refine Pw.list (Pw.off rfl rfl ?_) | refine Pw.condT rfl ?_ | refine Pw.condF rfl ?_ | refine Pw.list (Pw.box rfl rfl rfl rfl (fun _ => ?_)) | refine Pw.list (Pw.alloc rfl rfl rfl rfl rfl (fun _ => ?_)) | refine Pw.list (Pw.build rfl rfl rfl rfl ?_) | refine Pw.list (Pw.ld rfl inferInstance rfl rfl rfl ?_) | refine Pw.list (Pw.sto rfl rfl inferInstance rfl rfl rfl rfl rfl inferInstance rfl ?_))
    exact Pw.ret_ (x := ([], (none, 0))) (.tmp rfl (.tmp rfl .nil)) (by rw [e]; rfl) (by rw [e]; rfl) (fun w h => Rows.nil _ _ _ _ _)
  have eR : pagesR x size = (pagesS x size.toNat, 0) := by unfold pagesR; rw [if_neg (by rw [hF]; simp; omega), if_neg c2]
  rw [eR]
  obtain ⟨k, rfl⟩ : ∃ k : Nat, size = k := ⟨size.toNat, by omega⟩
  rw [Int.toNat_natCast]
  have hk : 1 ≤ k := by omega
  clear eR c1 c2
  obtain ⟨xi, xc, xo, oth, ⟨A, zc0⟩⟩ := x
  replace hl : oth.length ≤ 1000 := hl
  repeat (first | (with_reducible first | refine Pw.seq ?_ | refine Pw.region ?_ | refine Pw.nil ?_ | refine Pw.then_ ?_ | refine Pw.skip ?_ | refine Pw.block ?_ | refine Pw.exit ?_ | refine Pw.inX ?_ | refine Pw.inN ?_ | refine Pw.inR ?_ | refine Pw.thenX ?_ | refine Pw.thenR ?_ | refine Pw.ret ?_) | refine Pw.list (Pw.pure rfl rfl rfl ?_) | refine Pw.inY rfl ?_ | refine Pw.list (Pw.off rfl rfl ?_) | refine Pw.condT rfl ?_ | refine Pw.condF rfl ?_ | refine Pw.list (Pw.box rfl rfl rfl rfl (fun _ => ?_)) | refine Pw.list (Pw.alloc rfl rfl rfl rfl rfl (fun _ => ?_)) | refine Pw.list (Pw.build rfl rfl rfl rfl ?_) | refine Pw.list (Pw.ld rfl inferInstance rfl rfl rfl ?_) | refine Pw.list (Pw.sto rfl rfl inferInstance rfl rfl rfl rfl rfl inferInstance rfl ?_))
  refine Pw.facts (G' := [fun W => W.heap[g2]? = some (row [.int .i64 xi, .int .u64 xc, .int .u64 xo, .slice A oth.length zc0] 73), PS oth (A, zc0), PS [] (none, 0)]) (fun w h => allCons (by first | exact fact0 (h) | exact fact0 (allTail (h)) | exact fact0 (allTail (allTail (h))) | exact fact0 (allTail (allTail (allTail (h)))) | exact fact0 (allTail (allTail (allTail (allTail (h))))) | exact fact0 (allTail (allTail (allTail (allTail (allTail (h)))))) | exact fact0 (allTail (allTail (allTail (allTail (allTail (allTail (h))))))) | exact fact0 (allTail (allTail (allTail (allTail (allTail (allTail (allTail (h)))))))) | exact fact0 (allTail (allTail (allTail (allTail (allTail (allTail (allTail (allTail (h))))))))) | exact fact0 (allTail (allTail (allTail (allTail (allTail (allTail (allTail (allTail (allTail (h))))))))))) (allCons (hv w h) (allCons (Rows.nil _ _ _ _ _) allNil))) ?_
  refine Pw.loopJ (σ := Nat × List Pt × (Option Addr × Nat)) (fun t => t.1 ≤ oth.length ∧ Fall t.2.1 ∧ t.2.1.Perm (oth.take t.1)) (fun t => ⟨[(1, .int .i64 k), (2, .pointer (some ⟨g2, 0, none⟩)), (8, psV t.2.1 t.2.2), (32, .int .i64 oth.length), (33, .int .i64 t.1)], [], [fun W => W.heap[g2]? = some (row [.int .i64 xi, .int .u64 xc, .int .u64 xo, .slice A oth.length zc0] 73), PS oth (A, zc0), PS t.2.1 t.2.2]⟩) (fun t => oth.length - t.1) (0, [], (none, 0)) ⟨Nat.zero_le _, List.Pairwise.nil, .refl _⟩ (Pw.enter ⟨rfl, rfl, rfl, rfl, rfl, trivial⟩ (fun w h => h)) ?_
  rintro ⟨i, l, za, zc⟩ ⟨hi, hfall, hperm⟩
  dsimp only at hi hfall hperm ⊢
  have hll0 : l.length = i := by rw [hperm.length_eq, List.length_take]; omega
  repeat (first | (with_reducible first | refine Pw.seq ?_ | refine Pw.region ?_ | refine Pw.nil ?_ | refine Pw.then_ ?_ | refine Pw.skip ?_ | refine Pw.block ?_ | refine Pw.exit ?_ | refine Pw.inX ?_ | refine Pw.inN ?_ | refine Pw.inR ?_ | refine Pw.thenX ?_ | refine Pw.thenR ?_ | refine Pw.ret ?_) | refine Pw.list (Pw.pure rfl rfl rfl ?_) | refine Pw.inY rfl ?_ | refine Pw.list (Pw.off rfl rfl ?_) | refine Pw.condT rfl ?_ | refine Pw.condF rfl ?_ | refine Pw.list (Pw.box rfl rfl rfl rfl (fun _ => ?_)) | refine Pw.list (Pw.alloc rfl rfl rfl rfl rfl (fun _ => ?_)) | refine Pw.list (Pw.build rfl rfl rfl rfl ?_) | refine Pw.list (Pw.ld rfl inferInstance rfl rfl rfl ?_) | refine Pw.list (Pw.sto rfl rfl inferInstance rfl rfl rfl rfl rfl inferInstance rfl ?_))
  refine Pw.condD rfl (fun c3 => ?_) (fun c3 => ?_)
  · obtain ⟨p, hp, hm⟩ := get_at (show i < oth.length by omega)
    refine Pw.use (p := A.isSome = true) (fun w h => (hv w h : PS oth (A, zc0) w).has (Int.natCast_nonneg i) c3) (fun hA => ?_)
    obtain ⟨ad0, rfl⟩ := Option.isSome_iff_exists.1 hA
    repeat (first | (with_reducible first | refine Pw.seq ?_ | refine Pw.region ?_ | refine Pw.nil ?_ | refine Pw.then_ ?_ | refine Pw.skip ?_ | refine Pw.block ?_ | refine Pw.exit ?_ | refine Pw.inX ?_ | refine Pw.inN ?_ | refine Pw.inR ?_ | refine Pw.thenX ?_ | refine Pw.thenR ?_ | refine Pw.ret ?_) | refine Pw.list (Pw.pure rfl rfl rfl ?_) | refine Pw.inY rfl ?_ | refine Pw.list (Pw.off rfl rfl ?_) | refine Pw.condT rfl ?_ | refine Pw.condF rfl ?_ | refine Pw.list (Pw.box rfl rfl rfl rfl (fun _ => ?_)) | refine Pw.list (Pw.alloc rfl rfl rfl rfl rfl (fun _ => ?_)) | refine Pw.list (Pw.build rfl rfl rfl rfl ?_) | refine Pw.list (Pw.ld rfl inferInstance rfl rfl rfl ?_) | refine Pw.list (Pw.sto rfl rfl inferInstance rfl rfl rfl rfl rfl inferInstance rfl ?_))
    refine Pw.loopJ (σ := Nat) (fun j => j ≤ l.length ∧ ∀ t, t < j → ∀ y, l[t]? = some y → aheadP y p = true) (fun j => ⟨[(1, .int .i64 k), (2, .pointer (some ⟨g2, 0, none⟩)), (8, psV l (za, zc)), (9, .int .i64 i), (10, .int .i64 j), (32, .int .i64 oth.length), (33, .int .i64 i)], [], [fun W => W.heap[g2]? = some (row [.int .i64 xi, .int .u64 xc, .int .u64 xo, .slice (some ad0) oth.length zc0] 73), PS oth (some ad0, zc0), PS l (za, zc)]⟩) (fun j => l.length - j) 0 ⟨Nat.zero_le _, fun j hj => absurd hj (Nat.not_lt_zero j)⟩ (Pw.enter ⟨rfl, rfl, rfl, rfl, rfl, rfl, rfl, trivial⟩ (fun w h => h)) ?_
    rintro j ⟨hj2, hj1⟩
    dsimp only at hj2 hj1 ⊢
    repeat (first | (with_reducible first | refine Pw.seq ?_ | refine Pw.region ?_ | refine Pw.nil ?_ | refine Pw.then_ ?_ | refine Pw.skip ?_ | refine Pw.block ?_ | refine Pw.exit ?_ | refine Pw.inX ?_ | refine Pw.inN ?_ | refine Pw.inR ?_ | refine Pw.thenX ?_ | refine Pw.thenR ?_ | refine Pw.ret ?_) | refine Pw.list (Pw.pure rfl rfl rfl ?_) | refine Pw.inY rfl ?_ | refine Pw.list (Pw.off rfl rfl ?_) | refine Pw.condT rfl ?_ | refine Pw.condF rfl ?_ | refine Pw.list (Pw.box rfl rfl rfl rfl (fun _ => ?_)) | refine Pw.list (Pw.alloc rfl rfl rfl rfl rfl (fun _ => ?_)) | refine Pw.list (Pw.build rfl rfl rfl rfl ?_) | refine Pw.list (Pw.ld rfl inferInstance rfl rfl rfl ?_) | refine Pw.list (Pw.sto rfl rfl inferInstance rfl rfl rfl rfl rfl inferInstance rfl ?_))
    refine Pw.drawnG mixed rfl rfl ?_
    refine Pw.takeP 0 (nb 16 1) rfl rfl rfl rfl (by kernel_rfl) np sf ?_
    refine Pw.takeP 1 (nb 16 3) rfl rfl rfl rfl (by kernel_rfl) np sf ?_
    refine Pw.takeP 2 (nb 16 7) rfl rfl rfl rfl (by kernel_rfl) np sf ?_
    refine Pw.takeP 3 (nb 16 15) rfl rfl rfl rfl (by kernel_rfl) np sf ?_
    refine Pw.takeP 4 (nb 16 31) rfl rfl rfl rfl (by kernel_rfl) np sf ?_
    by_cases hjl : j < l.length
    · obtain ⟨y, hy, _⟩ := get_at hjl
      refine Pw.use (p := za.isSome = true) (fun w h => (hv w h : PS l (za, zc) w).has (i := (j : Int)) (by omega) (by omega)) (fun hA => ?_)
      obtain ⟨zd, rfl⟩ := Option.isSome_iff_exists.1 hA
      refine Pw.re (d := 40) (v' := .bool true) rfl (congrArg Value.bool (decide_eq_true (by omega))) ?_
      refine Pw.takeP 5 (nb 16 63) rfl rfl rfl rfl (by kernel_rfl) np sf ?_
      refine Pw.takeP 6 (nb 16 127) rfl rfl rfl rfl (by kernel_rfl) np sf ?_
      refine Pw.takeIx 7 (nb 16 255) rfl rfl rfl rfl rfl (by first | assumption | omega) (by first | assumption | omega) rfl rfl (by kernel_rfl) np sf ?_
      refine Pw.takeLA y 8 (nb 16 511) rfl rfl inferInstance rfl (by first | assumption | (rw [Int.toNat_natCast]; assumption)) (by kernel_rfl) rfl rfl (by kernel_rfl) np sf ?_
      refine Pw.takeP 9 (nb 16 1023) rfl rfl rfl rfl (by kernel_rfl) np sf ?_
      refine Pw.takeF 10 (nb 16 2047) rfl rfl inferInstance rfl rfl rfl (by kernel_rfl) np sf ?_
      refine Pw.takeP 11 (nb 16 4095) rfl rfl rfl rfl (by kernel_rfl) np sf ?_
      refine Pw.takeIx 12 (nb 16 8191) rfl rfl rfl rfl rfl (by first | assumption | omega) (by first | assumption | omega) rfl rfl (by kernel_rfl) np sf ?_
      refine Pw.takeLA p 13 (nb 16 16383) rfl rfl inferInstance rfl (by first | assumption | (rw [Int.toNat_natCast]; assumption)) (by kernel_rfl) rfl rfl (by kernel_rfl) np sf ?_
      refine Pw.one 14 (nb 16 32767) rfl (by kernel_rfl) ?_
      -- call Op.call { callee := Callee.value (Operand.func 98), args := #[Operand.tmp 44, Operand.tmp 49], argTypes := #[81, 81] }
      refine Pw.call (ahead_ct y p) rfl rfl rfl (by kernel_rfl) rfl rfl (fun w h => trivial) ?_
      intro _ _
      refine Pw.held sf ?_
      refine Pw.takeP 15 (nb 16 65535) rfl rfl rfl rfl (by kernel_rfl) np sf ?_
      refine Pw.done (by kernel_rfl) ?_
      refine Pw.facts (G' := [fun W => W.heap[g2]? = some (row [.int .i64 xi, .int .u64 xc, .int .u64 xo, .slice (some ad0) oth.length zc0] 73), PS oth (some ad0, zc0), PS l (some zd, zc)]) (fun w h => allTail h) ?_
      cases hay : aheadP y p
      · have hj3 : ∀ t, l[j]? = some t → aheadP t p = false := fun t h => by rw [hy] at h; cases h; exact hay
        repeat (first | (with_reducible first | refine Pw.seq ?_ | refine Pw.region ?_ | refine Pw.nil ?_ | refine Pw.then_ ?_ | refine Pw.skip ?_ | refine Pw.block ?_ | refine Pw.exit ?_ | refine Pw.inX ?_ | refine Pw.inN ?_ | refine Pw.inR ?_ | refine Pw.thenX ?_ | refine Pw.thenR ?_ | refine Pw.ret ?_) | refine Pw.list (Pw.pure rfl rfl rfl ?_) | refine Pw.inY rfl ?_ | refine Pw.list (Pw.off rfl rfl ?_) | refine Pw.condT rfl ?_ | refine Pw.condF rfl ?_ | refine Pw.list (Pw.box rfl rfl rfl rfl (fun _ => ?_)) | refine Pw.list (Pw.alloc rfl rfl rfl rfl rfl (fun _ => ?_)) | refine Pw.list (Pw.build rfl rfl rfl rfl ?_) | refine Pw.list (Pw.ld rfl inferInstance rfl rfl rfl ?_) | refine Pw.list (Pw.sto rfl rfl inferInstance rfl rfl rfl rfl rfl inferInstance rfl ?_))
        refine Pw.use (p := l.length ≤ zc) (fun w h => (hv w h : PS l ((some zd), zc) w).le) (fun hlc => ?_)
        refine Pw.list (Pw.cutTo rfl rfl rfl rfl (Int.natCast_nonneg j) (by omega) rfl rfl ?_)
        refine Pw.list (Pw.pushG (s := none) (m := 0) (cells := []) (news := cellsP (l.take j)) (L0 := []) rfl rfl rfl rfl rfl rfl rfl ⟨rfl, rfl⟩ (by rw [cellsP_len, List.length_take, Int.toNat_natCast, Nat.min_eq_left hj2]; rfl) cellsP_one (fun w hs j' u hu => Rows.toCellsE ((hv w hs.all : PS l ((some zd), zc) w).take j) (by omega) j' u hu) (by show 0 < 2; omega) (by simp only [maxLen]; omega) (by show (0 + (j : Int).toNat) * 16 ≤ _; omega) rfl rfl (fun q1 hq1 => ?_))
        rw [Nat.zero_add, List.nil_append, Int.toNat_natCast] at hq1 ⊢
        repeat (first | (with_reducible first | refine Pw.seq ?_ | refine Pw.region ?_ | refine Pw.nil ?_ | refine Pw.then_ ?_ | refine Pw.skip ?_ | refine Pw.block ?_ | refine Pw.exit ?_ | refine Pw.inX ?_ | refine Pw.inN ?_ | refine Pw.inR ?_ | refine Pw.thenX ?_ | refine Pw.thenR ?_ | refine Pw.ret ?_) | refine Pw.list (Pw.pure rfl rfl rfl ?_) | refine Pw.inY rfl ?_ | refine Pw.list (Pw.off rfl rfl ?_) | refine Pw.condT rfl ?_ | refine Pw.condF rfl ?_ | refine Pw.list (Pw.box rfl rfl rfl rfl (fun _ => ?_)) | refine Pw.list (Pw.alloc rfl rfl rfl rfl rfl (fun _ => ?_)) | refine Pw.list (Pw.build rfl rfl rfl rfl ?_) | refine Pw.list (Pw.ld rfl inferInstance rfl rfl rfl ?_) | refine Pw.list (Pw.sto rfl rfl inferInstance rfl rfl rfl rfl rfl inferInstance rfl ?_))
        refine Pw.list (Pw.indexS rfl rfl rfl rfl (Int.natCast_nonneg i) c3 rfl rfl ?_)
        refine Pw.list (Pw.loadR p rfl inferInstance rfl (by rw [Int.toNat_natCast]; exact hp) (by kernel_rfl) rfl rfl ?_)
        refine Pw.re (d := 64) (v' := ptV p) rfl rfl ?_
        refine Pw.list (Pw.lit12 rfl rfl rfl rfl rfl rfl rfl rfl rfl (fun g65 => freeHead ?_))
        refine Pw.list (Pw.push (s := q1) (m := j) (cells := cellsP (l.take j)) (news := encP p) (L0 := []) rfl rfl rfl rfl rfl rfl rfl hq1 rfl (fun u hu => cellsP_one (l := [p]) u (by simpa [cellsP] using hu)) (fun w hs j' u hu => by
          have h1 : w.heap[g65]? = some (row (encP p) 81) := fact0 hs.all
          rw [add_none, cell_of_blk h1]
          simpa [encP] using hu) (by omega) (by simp only [maxLen]; omega) (by show (j + 1) * 16 ≤ _; omega) rfl rfl (fun q2 hq2 => ?_))
        repeat (first | (with_reducible first | refine Pw.seq ?_ | refine Pw.region ?_ | refine Pw.nil ?_ | refine Pw.then_ ?_ | refine Pw.skip ?_ | refine Pw.block ?_ | refine Pw.exit ?_ | refine Pw.inX ?_ | refine Pw.inN ?_ | refine Pw.inR ?_ | refine Pw.thenX ?_ | refine Pw.thenR ?_ | refine Pw.ret ?_) | refine Pw.list (Pw.pure rfl rfl rfl ?_) | refine Pw.inY rfl ?_ | refine Pw.list (Pw.off rfl rfl ?_) | refine Pw.condT rfl ?_ | refine Pw.condF rfl ?_ | refine Pw.list (Pw.box rfl rfl rfl rfl (fun _ => ?_)) | refine Pw.list (Pw.alloc rfl rfl rfl rfl rfl (fun _ => ?_)) | refine Pw.list (Pw.build rfl rfl rfl rfl ?_) | refine Pw.list (Pw.ld rfl inferInstance rfl rfl rfl ?_) | refine Pw.list (Pw.sto rfl rfl inferInstance rfl rfl rfl rfl rfl inferInstance rfl ?_))
        refine Pw.list (Pw.cutA rfl rfl rfl rfl (Int.natCast_nonneg j) (by omega) hlc rfl rfl ?_)
        refine Pw.list (Pw.pushG (s := q2) (m := j + 1) (cells := cellsP (l.take j) ++ encP p) (news := cellsP (l.drop j)) (L0 := []) rfl rfl rfl rfl rfl rfl rfl hq2 (by rw [cellsP_len, List.length_drop, Int.toNat_natCast]; rfl) cellsP_one (fun w hs j' u hu => Rows.toCellsE ((hv w hs.all : PS l ((some zd), zc) w).dropC j) (by omega) j' u hu) (by show 0 < 2; omega) (by simp only [maxLen]; omega) (by show (j + 1 + (l.length - (j : Int).toNat)) * 16 ≤ _; omega) rfl rfl (fun q3 hq3 => ?_))
        have ec : cellsP (l.take j) ++ encP p ++ cellsP (l.drop j) = cellsP (l.take j ++ [p] ++ l.drop j) := by unfold cellsP; simp
        have el : j + 1 + (l.length - (j : Int).toNat) = (l.take j ++ [p] ++ l.drop j).length := by rw [List.length_append, List.length_append, List.length_take, List.length_drop]; simp; omega
        rw [ec, el] at hq3 ⊢
        have hfall' := ins_fall hfall hj1 hj3
        have hperm' : (l.take j ++ [p] ++ l.drop j).Perm (oth.take (i + 1)) := ins_perm.trans (by rw [take_snoc hp]; exact hperm.append_right _)
        obtain ⟨l', hl'⟩ : ∃ l', l' = l.take j ++ [p] ++ l.drop j := ⟨_, rfl⟩
        have hll := congrArg List.length hl'
        rw [List.length_append, List.length_append, List.length_take, List.length_drop, List.length_singleton] at hll
        rw [← hl'] at hq3 hfall' hperm' ⊢
        repeat (first | (with_reducible first | refine Pw.seq ?_ | refine Pw.region ?_ | refine Pw.nil ?_ | refine Pw.then_ ?_ | refine Pw.skip ?_ | refine Pw.block ?_ | refine Pw.exit ?_ | refine Pw.inX ?_ | refine Pw.inN ?_ | refine Pw.inR ?_ | refine Pw.thenX ?_ | refine Pw.thenR ?_ | refine Pw.ret ?_) | refine Pw.list (Pw.pure rfl rfl rfl ?_) | refine Pw.inY rfl ?_ | refine Pw.list (Pw.off rfl rfl ?_) | refine Pw.condT rfl ?_ | refine Pw.condF rfl ?_ | refine Pw.list (Pw.box rfl rfl rfl rfl (fun _ => ?_)) | refine Pw.list (Pw.alloc rfl rfl rfl rfl rfl (fun _ => ?_)) | refine Pw.list (Pw.build rfl rfl rfl rfl ?_) | refine Pw.list (Pw.ld rfl inferInstance rfl rfl rfl ?_) | refine Pw.list (Pw.sto rfl rfl inferInstance rfl rfl rfl rfl rfl inferInstance rfl ?_))
        refine Pw.freeG hq3 (fun A c e hc => ?_)
        refine Pw.re (d := 8) (v' := psV l' (A, c)) rfl e ?_
        refine Pw.re (d := 33) (v' := .int .i64 ((i + 1 : Nat) : Int)) rfl (congrArg (Value.int .i64) (i64s (n := 100000) (by omega) (by omega))) ?_
        exact Pw.again (i + 1, l', (A, c)) ⟨by omega, hfall', hperm'⟩ (by show oth.length - (i + 1) < oth.length - i; omega) ⟨rfl, rfl, rfl, rfl, rfl, trivial⟩ rfl (fun w h => allCons (by first | exact fact0 (h) | exact fact0 (allTail (h)) | exact fact0 (allTail (allTail (h))) | exact fact0 (allTail (allTail (allTail (h)))) | exact fact0 (allTail (allTail (allTail (allTail (h))))) | exact fact0 (allTail (allTail (allTail (allTail (allTail (h)))))) | exact fact0 (allTail (allTail (allTail (allTail (allTail (allTail (h))))))) | exact fact0 (allTail (allTail (allTail (allTail (allTail (allTail (allTail (h)))))))) | exact fact0 (allTail (allTail (allTail (allTail (allTail (allTail (allTail (allTail (h))))))))) | exact fact0 (allTail (allTail (allTail (allTail (allTail (allTail (allTail (allTail (allTail (h))))))))))) (allCons (hv w h) (allCons (rows_of_cells (fun _ _ => rfl) (fun _ _ => trivial) hc (by simp only [maxLen]; omega) (by omega) (fact0 h)) allNil)))
      · repeat (first | (with_reducible first | refine Pw.seq ?_ | refine Pw.region ?_ | refine Pw.nil ?_ | refine Pw.then_ ?_ | refine Pw.skip ?_ | refine Pw.block ?_ | refine Pw.exit ?_ | refine Pw.inX ?_ | refine Pw.inN ?_ | refine Pw.inR ?_ | refine Pw.thenX ?_ | refine Pw.thenR ?_ | refine Pw.ret ?_) | refine Pw.list (Pw.pure rfl rfl rfl ?_) | refine Pw.inY rfl ?_ | refine Pw.list (Pw.off rfl rfl ?_) | refine Pw.condT rfl ?_ | refine Pw.condF rfl ?_ | refine Pw.list (Pw.box rfl rfl rfl rfl (fun _ => ?_)) | refine Pw.list (Pw.alloc rfl rfl rfl rfl rfl (fun _ => ?_)) | refine Pw.list (Pw.build rfl rfl rfl rfl ?_) | refine Pw.list (Pw.ld rfl inferInstance rfl rfl rfl ?_) | refine Pw.list (Pw.sto rfl rfl inferInstance rfl rfl rfl rfl rfl inferInstance rfl ?_))
        refine Pw.re (d := 10) (v' := .int .i64 ((j + 1 : Nat) : Int)) rfl (congrArg (Value.int .i64) (i64s (n := 100000) (by omega) (by omega))) ?_
        exact Pw.again (j + 1) ⟨by omega, fun t ht => by
          rcases Nat.lt_or_ge t j with h | h
          · exact hj1 t h
          · obtain rfl : t = j := by omega
            intro z hz; rw [hy] at hz; cases hz; exact hay⟩ (by show l.length - (j + 1) < l.length - j; omega) ⟨rfl, rfl, rfl, rfl, rfl, rfl, rfl, trivial⟩ rfl (fun w h => h)
    · have hj3 : ∀ y, l[j]? = some y → aheadP y p = false := fun y h => by rw [List.getElem?_eq_none (by omega)] at h; cases h
      refine Pw.re (d := 40) (v' := .bool false) rfl (congrArg Value.bool (decide_eq_false (by omega))) ?_
      refine Pw.takeO 5 (nb 16 63) rfl rfl rfl (by kernel_rfl) np sf ?_
      refine Pw.takeO 6 (nb 16 127) rfl rfl rfl (by kernel_rfl) np sf ?_
      refine Pw.takeO 7 (nb 16 255) rfl rfl rfl (by kernel_rfl) np sf ?_
      refine Pw.takeO 8 (nb 16 511) rfl rfl rfl (by kernel_rfl) np sf ?_
      refine Pw.takeO 9 (nb 16 1023) rfl rfl rfl (by kernel_rfl) np sf ?_
      refine Pw.takeO 10 (nb 16 2047) rfl rfl rfl (by kernel_rfl) np sf ?_
      refine Pw.takeO 11 (nb 16 4095) rfl rfl rfl (by kernel_rfl) np sf ?_
      refine Pw.takeO 12 (nb 16 8191) rfl rfl rfl (by kernel_rfl) np sf ?_
      refine Pw.takeO 13 (nb 16 16383) rfl rfl rfl (by kernel_rfl) np sf ?_
      refine Pw.takeO 14 (nb 16 32767) rfl rfl rfl (by kernel_rfl) np sf ?_
      refine Pw.takeP 15 (nb 16 65535) rfl rfl rfl rfl (by kernel_rfl) np sf ?_
      refine Pw.done (by kernel_rfl) ?_
      repeat (first | (with_reducible first | refine Pw.seq ?_ | refine Pw.region ?_ | refine Pw.nil ?_ | refine Pw.then_ ?_ | refine Pw.skip ?_ | refine Pw.block ?_ | refine Pw.exit ?_ | refine Pw.inX ?_ | refine Pw.inN ?_ | refine Pw.inR ?_ | refine Pw.thenX ?_ | refine Pw.thenR ?_ | refine Pw.ret ?_) | refine Pw.list (Pw.pure rfl rfl rfl ?_) | refine Pw.inY rfl ?_ | refine Pw.list (Pw.off rfl rfl ?_) | refine Pw.condT rfl ?_ | refine Pw.condF rfl ?_ | refine Pw.list (Pw.box rfl rfl rfl rfl (fun _ => ?_)) | refine Pw.list (Pw.alloc rfl rfl rfl rfl rfl (fun _ => ?_)) | refine Pw.list (Pw.build rfl rfl rfl rfl ?_) | refine Pw.list (Pw.ld rfl inferInstance rfl rfl rfl ?_) | refine Pw.list (Pw.sto rfl rfl inferInstance rfl rfl rfl rfl rfl inferInstance rfl ?_))
      refine Pw.use (p := l.length ≤ zc) (fun w h => (hv w h : PS l (za, zc) w).le) (fun hlc => ?_)
      refine Pw.list (Pw.cutTo rfl rfl rfl rfl (Int.natCast_nonneg j) (by omega) rfl rfl ?_)
      refine Pw.list (Pw.pushG (s := none) (m := 0) (cells := []) (news := cellsP (l.take j)) (L0 := []) rfl rfl rfl rfl rfl rfl rfl ⟨rfl, rfl⟩ (by rw [cellsP_len, List.length_take, Int.toNat_natCast, Nat.min_eq_left hj2]; rfl) cellsP_one (fun w hs j' u hu => Rows.toCellsE ((hv w hs.all : PS l (za, zc) w).take j) (by omega) j' u hu) (by show 0 < 2; omega) (by simp only [maxLen]; omega) (by show (0 + (j : Int).toNat) * 16 ≤ _; omega) rfl rfl (fun q1 hq1 => ?_))
      rw [Nat.zero_add, List.nil_append, Int.toNat_natCast] at hq1 ⊢
      repeat (first | (with_reducible first | refine Pw.seq ?_ | refine Pw.region ?_ | refine Pw.nil ?_ | refine Pw.then_ ?_ | refine Pw.skip ?_ | refine Pw.block ?_ | refine Pw.exit ?_ | refine Pw.inX ?_ | refine Pw.inN ?_ | refine Pw.inR ?_ | refine Pw.thenX ?_ | refine Pw.thenR ?_ | refine Pw.ret ?_) | refine Pw.list (Pw.pure rfl rfl rfl ?_) | refine Pw.inY rfl ?_ | refine Pw.list (Pw.off rfl rfl ?_) | refine Pw.condT rfl ?_ | refine Pw.condF rfl ?_ | refine Pw.list (Pw.box rfl rfl rfl rfl (fun _ => ?_)) | refine Pw.list (Pw.alloc rfl rfl rfl rfl rfl (fun _ => ?_)) | refine Pw.list (Pw.build rfl rfl rfl rfl ?_) | refine Pw.list (Pw.ld rfl inferInstance rfl rfl rfl ?_) | refine Pw.list (Pw.sto rfl rfl inferInstance rfl rfl rfl rfl rfl inferInstance rfl ?_))
      refine Pw.list (Pw.indexS rfl rfl rfl rfl (Int.natCast_nonneg i) c3 rfl rfl ?_)
      refine Pw.list (Pw.loadR p rfl inferInstance rfl (by rw [Int.toNat_natCast]; exact hp) (by kernel_rfl) rfl rfl ?_)
      refine Pw.re (d := 64) (v' := ptV p) rfl rfl ?_
      refine Pw.list (Pw.lit12 rfl rfl rfl rfl rfl rfl rfl rfl rfl (fun g65 => freeHead ?_))
      refine Pw.list (Pw.push (s := q1) (m := j) (cells := cellsP (l.take j)) (news := encP p) (L0 := []) rfl rfl rfl rfl rfl rfl rfl hq1 rfl (fun u hu => cellsP_one (l := [p]) u (by simpa [cellsP] using hu)) (fun w hs j' u hu => by
        have h1 : w.heap[g65]? = some (row (encP p) 81) := fact0 hs.all
        rw [add_none, cell_of_blk h1]
        simpa [encP] using hu) (by omega) (by simp only [maxLen]; omega) (by show (j + 1) * 16 ≤ _; omega) rfl rfl (fun q2 hq2 => ?_))
      repeat (first | (with_reducible first | refine Pw.seq ?_ | refine Pw.region ?_ | refine Pw.nil ?_ | refine Pw.then_ ?_ | refine Pw.skip ?_ | refine Pw.block ?_ | refine Pw.exit ?_ | refine Pw.inX ?_ | refine Pw.inN ?_ | refine Pw.inR ?_ | refine Pw.thenX ?_ | refine Pw.thenR ?_ | refine Pw.ret ?_) | refine Pw.list (Pw.pure rfl rfl rfl ?_) | refine Pw.inY rfl ?_ | refine Pw.list (Pw.off rfl rfl ?_) | refine Pw.condT rfl ?_ | refine Pw.condF rfl ?_ | refine Pw.list (Pw.box rfl rfl rfl rfl (fun _ => ?_)) | refine Pw.list (Pw.alloc rfl rfl rfl rfl rfl (fun _ => ?_)) | refine Pw.list (Pw.build rfl rfl rfl rfl ?_) | refine Pw.list (Pw.ld rfl inferInstance rfl rfl rfl ?_) | refine Pw.list (Pw.sto rfl rfl inferInstance rfl rfl rfl rfl rfl inferInstance rfl ?_))
      refine Pw.list (Pw.cutA rfl rfl rfl rfl (Int.natCast_nonneg j) (by omega) hlc rfl rfl ?_)
      refine Pw.list (Pw.pushG (s := q2) (m := j + 1) (cells := cellsP (l.take j) ++ encP p) (news := cellsP (l.drop j)) (L0 := []) rfl rfl rfl rfl rfl rfl rfl hq2 (by rw [cellsP_len, List.length_drop, Int.toNat_natCast]; rfl) cellsP_one (fun w hs j' u hu => Rows.toCellsE ((hv w hs.all : PS l (za, zc) w).dropC j) (by omega) j' u hu) (by show 0 < 2; omega) (by simp only [maxLen]; omega) (by show (j + 1 + (l.length - (j : Int).toNat)) * 16 ≤ _; omega) rfl rfl (fun q3 hq3 => ?_))
      have ec : cellsP (l.take j) ++ encP p ++ cellsP (l.drop j) = cellsP (l.take j ++ [p] ++ l.drop j) := by unfold cellsP; simp
      have el : j + 1 + (l.length - (j : Int).toNat) = (l.take j ++ [p] ++ l.drop j).length := by rw [List.length_append, List.length_append, List.length_take, List.length_drop]; simp; omega
      rw [ec, el] at hq3 ⊢
      have hfall' := ins_fall hfall hj1 hj3
      have hperm' : (l.take j ++ [p] ++ l.drop j).Perm (oth.take (i + 1)) := ins_perm.trans (by rw [take_snoc hp]; exact hperm.append_right _)
      obtain ⟨l', hl'⟩ : ∃ l', l' = l.take j ++ [p] ++ l.drop j := ⟨_, rfl⟩
      have hll := congrArg List.length hl'
      rw [List.length_append, List.length_append, List.length_take, List.length_drop, List.length_singleton] at hll
      rw [← hl'] at hq3 hfall' hperm' ⊢
      repeat (first | (with_reducible first | refine Pw.seq ?_ | refine Pw.region ?_ | refine Pw.nil ?_ | refine Pw.then_ ?_ | refine Pw.skip ?_ | refine Pw.block ?_ | refine Pw.exit ?_ | refine Pw.inX ?_ | refine Pw.inN ?_ | refine Pw.inR ?_ | refine Pw.thenX ?_ | refine Pw.thenR ?_ | refine Pw.ret ?_) | refine Pw.list (Pw.pure rfl rfl rfl ?_) | refine Pw.inY rfl ?_ | refine Pw.list (Pw.off rfl rfl ?_) | refine Pw.condT rfl ?_ | refine Pw.condF rfl ?_ | refine Pw.list (Pw.box rfl rfl rfl rfl (fun _ => ?_)) | refine Pw.list (Pw.alloc rfl rfl rfl rfl rfl (fun _ => ?_)) | refine Pw.list (Pw.build rfl rfl rfl rfl ?_) | refine Pw.list (Pw.ld rfl inferInstance rfl rfl rfl ?_) | refine Pw.list (Pw.sto rfl rfl inferInstance rfl rfl rfl rfl rfl inferInstance rfl ?_))
      refine Pw.freeG hq3 (fun A c e hc => ?_)
      refine Pw.re (d := 8) (v' := psV l' (A, c)) rfl e ?_
      refine Pw.re (d := 33) (v' := .int .i64 ((i + 1 : Nat) : Int)) rfl (congrArg (Value.int .i64) (i64s (n := 100000) (by omega) (by omega))) ?_
      exact Pw.again (i + 1, l', (A, c)) ⟨by omega, hfall', hperm'⟩ (by show oth.length - (i + 1) < oth.length - i; omega) ⟨rfl, rfl, rfl, rfl, rfl, trivial⟩ rfl (fun w h => allCons (by first | exact fact0 (h) | exact fact0 (allTail (h)) | exact fact0 (allTail (allTail (h))) | exact fact0 (allTail (allTail (allTail (h)))) | exact fact0 (allTail (allTail (allTail (allTail (h))))) | exact fact0 (allTail (allTail (allTail (allTail (allTail (h)))))) | exact fact0 (allTail (allTail (allTail (allTail (allTail (allTail (h))))))) | exact fact0 (allTail (allTail (allTail (allTail (allTail (allTail (allTail (h)))))))) | exact fact0 (allTail (allTail (allTail (allTail (allTail (allTail (allTail (allTail (h))))))))) | exact fact0 (allTail (allTail (allTail (allTail (allTail (allTail (allTail (allTail (allTail (h))))))))))) (allCons (hv w h) (allCons (rows_of_cells (fun _ _ => rfl) (fun _ _ => trivial) hc (by simp only [maxLen]; omega) (by omega) (fact0 h)) allNil)))
  · obtain rfl : i = oth.length := by omega
    rw [List.take_length] at hperm
    have hls : l = srt oth := fall_srt hfall hperm
    have hpg := pages_pgAt ⟨xi, xc, xo, oth, (A, zc0)⟩ k
    dsimp only at hpg
    rw [← hls] at hpg
    obtain ⟨h, hh⟩ : ∃ h : Pt, h = (xi, xo) := ⟨_, rfl⟩
    rw [← hh] at hpg
    repeat (first | (with_reducible first | refine Pw.seq ?_ | refine Pw.region ?_ | refine Pw.nil ?_ | refine Pw.then_ ?_ | refine Pw.skip ?_ | refine Pw.block ?_ | refine Pw.exit ?_ | refine Pw.inX ?_ | refine Pw.inN ?_ | refine Pw.inR ?_ | refine Pw.thenX ?_ | refine Pw.thenR ?_ | refine Pw.ret ?_) | refine Pw.list (Pw.pure rfl rfl rfl ?_) | refine Pw.inY rfl ?_ | refine Pw.list (Pw.off rfl rfl ?_) | refine Pw.condT rfl ?_ | refine Pw.condF rfl ?_ | refine Pw.list (Pw.box rfl rfl rfl rfl (fun _ => ?_)) | refine Pw.list (Pw.alloc rfl rfl rfl rfl rfl (fun _ => ?_)) | refine Pw.list (Pw.build rfl rfl rfl rfl ?_) | refine Pw.list (Pw.ld rfl inferInstance rfl rfl rfl ?_) | refine Pw.list (Pw.sto rfl rfl inferInstance rfl rfl rfl rfl rfl inferInstance rfl ?_))
    refine Pw.list (Pw.lit12 rfl rfl rfl rfl rfl rfl rfl rfl rfl (fun g78 => ?_))
    refine Pw.list (Pw.lit1 rfl rfl rfl rfl rfl rfl rfl rfl rfl (fun g79 => ?_))
    repeat (first | (with_reducible first | refine Pw.seq ?_ | refine Pw.region ?_ | refine Pw.nil ?_ | refine Pw.then_ ?_ | refine Pw.skip ?_ | refine Pw.block ?_ | refine Pw.exit ?_ | refine Pw.inX ?_ | refine Pw.inN ?_ | refine Pw.inR ?_ | refine Pw.thenX ?_ | refine Pw.thenR ?_ | refine Pw.ret ?_) | refine Pw.list (Pw.pure rfl rfl rfl ?_) | refine Pw.inY rfl ?_ | refine Pw.list (Pw.off rfl rfl ?_) | refine Pw.condT rfl ?_ | refine Pw.condF rfl ?_ | refine Pw.list (Pw.box rfl rfl rfl rfl (fun _ => ?_)) | refine Pw.list (Pw.alloc rfl rfl rfl rfl rfl (fun _ => ?_)) | refine Pw.list (Pw.build rfl rfl rfl rfl ?_) | refine Pw.list (Pw.ld rfl inferInstance rfl rfl rfl ?_) | refine Pw.list (Pw.sto rfl rfl inferInstance rfl rfl rfl rfl rfl inferInstance rfl ?_))
    refine Pw.facts (G' := [PS l (za, zc), HeldAll []]) (fun w h => allCons (hv w h) (allCons (fun p hp => by cases hp) allNil)) ?_
    refine Pw.perm (L' := [⟨g78, row [.int .i64 xi, .int .u64 xo] 81⟩, ⟨g79, row [.slice (some ⟨g78, 0, none⟩) 1 1] 71⟩]) (.swap ..) ?_
    have ec0 : curP h l k 0 0 = [h] := by simp [curP]
    have hJ0 : Jp h l k 0 [] (some (g78, 1, [])) (some (g79, 1, [])) := ⟨by simp, rfl, by show gOk _ (cellsP (curP h l k 0 0)) (curP h l k 0 0).length 2; rw [ec0]; exact ⟨rfl, Nat.le_refl _, rfl⟩, rfl, Nat.le_refl _, rfl⟩
    refine Pw.eqL (L' := gLL (some (g78, 1, [])) (cellsP (curP h l k 0 0)) 81 (some (g79, 1, [])) (outC [] (gv (some (g78, 1, [])) (curP h l k 0 0).length)) 71) (by rw [ec0, hh]; rfl) ?_
    refine Pw.loopJ (σ := Nat × List Pg × Gr × Gr) (fun t => t.1 ≤ l.length ∧ Jp h l k t.1 t.2.1 t.2.2.1 t.2.2.2 ∧ t.1 - t.2.1.length * k ≤ k ∧ (0 < t.2.1.length → t.2.1.length * k < t.1)) (fun t => ⟨[(1, .int .i64 k), (8, psV l (za, zc)), (12, gv t.2.2.2 (t.2.1.length + 1)), (13, .int .i64 ((t.1 - t.2.1.length * k : Nat) : Int)), (81, .int .i64 l.length), (82, .int .i64 t.1)], gLL t.2.2.1 (cellsP (curP h l k t.1 t.2.1.length)) 81 t.2.2.2 (outC t.2.1 (gv t.2.2.1 (curP h l k t.1 t.2.1.length).length)) 71, [PS l (za, zc), HeldAll t.2.1]⟩) (fun t => l.length - t.1) (0, [], some (g78, 1, []), some (g79, 1, [])) ⟨Nat.zero_le _, hJ0, by simp, by simp⟩ (Pw.enter ⟨rfl, rfl, rfl, by simp; rfl, rfl, rfl, trivial⟩ (fun w h => h)) ?_
    rintro ⟨i, dn, q2, q1⟩ ⟨hi, ⟨hD1, hdn, hq2, hq1⟩, hD2, hD3⟩
    dsimp only at hi hD1 hdn hq2 hq1 hD2 hD3 ⊢
    have hcl := cur_len (h := h) (l := l) (k := k) (i := i) (D := dn.length)
    have hDk : dn.length ≤ dn.length * k := Nat.le_mul_of_pos_right _ (by omega)
    repeat (first | (with_reducible first | refine Pw.seq ?_ | refine Pw.region ?_ | refine Pw.nil ?_ | refine Pw.then_ ?_ | refine Pw.skip ?_ | refine Pw.block ?_ | refine Pw.exit ?_ | refine Pw.inX ?_ | refine Pw.inN ?_ | refine Pw.inR ?_ | refine Pw.thenX ?_ | refine Pw.thenR ?_ | refine Pw.ret ?_) | refine Pw.list (Pw.pure rfl rfl rfl ?_) | refine Pw.inY rfl ?_ | refine Pw.list (Pw.off rfl rfl ?_) | refine Pw.condT rfl ?_ | refine Pw.condF rfl ?_ | refine Pw.list (Pw.box rfl rfl rfl rfl (fun _ => ?_)) | refine Pw.list (Pw.alloc rfl rfl rfl rfl rfl (fun _ => ?_)) | refine Pw.list (Pw.build rfl rfl rfl rfl ?_) | refine Pw.list (Pw.ld rfl inferInstance rfl rfl rfl ?_) | refine Pw.list (Pw.sto rfl rfl inferInstance rfl rfl rfl rfl rfl inferInstance rfl ?_))
    refine Pw.condD rfl (fun c3 => ?_) (fun c3 => ?_)
    · obtain ⟨p, hp, _⟩ := get_at (show i < l.length by omega)
      repeat (first | (with_reducible first | refine Pw.seq ?_ | refine Pw.region ?_ | refine Pw.nil ?_ | refine Pw.then_ ?_ | refine Pw.skip ?_ | refine Pw.block ?_ | refine Pw.exit ?_ | refine Pw.inX ?_ | refine Pw.inN ?_ | refine Pw.inR ?_ | refine Pw.thenX ?_ | refine Pw.thenR ?_ | refine Pw.ret ?_) | refine Pw.list (Pw.pure rfl rfl rfl ?_) | refine Pw.inY rfl ?_ | refine Pw.list (Pw.off rfl rfl ?_) | refine Pw.condT rfl ?_ | refine Pw.condF rfl ?_ | refine Pw.list (Pw.box rfl rfl rfl rfl (fun _ => ?_)) | refine Pw.list (Pw.alloc rfl rfl rfl rfl rfl (fun _ => ?_)) | refine Pw.list (Pw.build rfl rfl rfl rfl ?_) | refine Pw.list (Pw.ld rfl inferInstance rfl rfl rfl ?_) | refine Pw.list (Pw.sto rfl rfl inferInstance rfl rfl rfl rfl rfl inferInstance rfl ?_))
      refine Pw.joinF (σ := List Pg × Gr × Gr) (fun t => Jp h l k i t.1 t.2.1 t.2.2 ∧ i - t.1.length * k < k) (fun t => ⟨[(1, .int .i64 k), (8, psV l (za, zc)), (12, gv t.2.2 (t.1.length + 1)), (13, .int .i64 ((i - t.1.length * k : Nat) : Int)), (14, .int .i64 i), (81, .int .i64 l.length), (82, .int .i64 i)], gLL t.2.1 (cellsP (curP h l k i t.1.length)) 81 t.2.2 (outC t.1 (gv t.2.1 (curP h l k i t.1.length).length)) 71, [PS l (za, zc), HeldAll t.1]⟩) ?_ ?_
      · refine Pw.condD rfl (fun c4 => ?_) (fun c4 => ?_)
        · repeat (first | (with_reducible first | refine Pw.seq ?_ | refine Pw.region ?_ | refine Pw.nil ?_ | refine Pw.then_ ?_ | refine Pw.skip ?_ | refine Pw.block ?_ | refine Pw.exit ?_ | refine Pw.inX ?_ | refine Pw.inN ?_ | refine Pw.inR ?_ | refine Pw.thenX ?_ | refine Pw.thenR ?_ | refine Pw.ret ?_) | refine Pw.list (Pw.pure rfl rfl rfl ?_) | refine Pw.inY rfl ?_ | refine Pw.list (Pw.off rfl rfl ?_) | refine Pw.condT rfl ?_ | refine Pw.condF rfl ?_ | refine Pw.list (Pw.box rfl rfl rfl rfl (fun _ => ?_)) | refine Pw.list (Pw.alloc rfl rfl rfl rfl rfl (fun _ => ?_)) | refine Pw.list (Pw.build rfl rfl rfl rfl ?_) | refine Pw.list (Pw.ld rfl inferInstance rfl rfl rfl ?_) | refine Pw.list (Pw.sto rfl rfl inferInstance rfl rfl rfl rfl rfl inferInstance rfl ?_))
          refine Pw.list (Pw.lit1 rfl rfl rfl rfl rfl rfl rfl rfl rfl (fun g89 => freeHead ?_))
          refine Pw.perm List.perm_append_comm ?_
          refine Pw.list (Pw.push (s := q1) (m := dn.length + 1) (cells := outC dn (gv q2 (curP h l k i dn.length).length)) (news := [.slice none 0 0]) (L0 := gL q2 (cellsP (curP h l k i dn.length)) 81) rfl rfl rfl rfl rfl rfl rfl hq1 rfl (fun u hu => by rw [List.mem_singleton.1 hu]; rfl) (fun w hs j u hu => by
            have h1 : w.heap[g89]? = some (row [.slice none 0 0] 71) := fact0 hs.all
            rw [add_none, cell_of_blk h1]
            simpa using hu) (by omega) (by simp only [maxLen]; omega) (by show (dn.length + 1 + 1) * 24 ≤ _; omega) rfl rfl (fun q1' hq1' => ?_))
          repeat (first | (with_reducible first | refine Pw.seq ?_ | refine Pw.region ?_ | refine Pw.nil ?_ | refine Pw.then_ ?_ | refine Pw.skip ?_ | refine Pw.block ?_ | refine Pw.exit ?_ | refine Pw.inX ?_ | refine Pw.inN ?_ | refine Pw.inR ?_ | refine Pw.thenX ?_ | refine Pw.thenR ?_ | refine Pw.ret ?_) | refine Pw.list (Pw.pure rfl rfl rfl ?_) | refine Pw.inY rfl ?_ | refine Pw.list (Pw.off rfl rfl ?_) | refine Pw.condT rfl ?_ | refine Pw.condF rfl ?_ | refine Pw.list (Pw.box rfl rfl rfl rfl (fun _ => ?_)) | refine Pw.list (Pw.alloc rfl rfl rfl rfl rfl (fun _ => ?_)) | refine Pw.list (Pw.build rfl rfl rfl rfl ?_) | refine Pw.list (Pw.ld rfl inferInstance rfl rfl rfl ?_) | refine Pw.list (Pw.sto rfl rfl inferInstance rfl rfl rfl rfl rfl inferInstance rfl ?_))
          refine Pw.perm List.perm_append_comm ?_
          refine Pw.freeG hq2 (fun A' c' e hc => ?_)
          rw [e] at hq1' ⊢
          have e1 : outC dn (.slice A' (curP h l k i dn.length).length c') ++ [.slice none 0 0] = outC (dn ++ [(curP h l k i dn.length, (A', c'))]) (.slice none 0 0) := by unfold outC; rw [cellsPg_snoc]
          rw [e1] at hq1' ⊢
          have el : (dn ++ [(curP h l k i dn.length, (A', c'))]).length = dn.length + 1 := by rw [List.length_append]; rfl
          have hik : i = (dn.length + 1) * k := by rw [Nat.add_mul, Nat.one_mul]; omega
          have ez : curP h l k i (dn.length + 1) = [] := cur_zero hik
          have hJ' : Jp h l k i (dn ++ [(curP h l k i dn.length, (A', c'))]) none q1' := by
            refine ⟨by rw [el]; omega, ?_, by rw [el, ez]; exact ⟨rfl, rfl⟩, by rw [el, ez]; exact hq1'⟩
            rw [el, List.map_append, hdn, List.range_succ, List.map_append]
            show _ ++ [curP h l k i dn.length] = _ ++ [pgAt h l k dn.length]
            rw [cur_full (by omega)]
          refine Pw.re (d := 12) (v' := gv q1' ((dn ++ [(curP h l k i dn.length, (A', c'))]).length + 1)) rfl (by rw [el]) ?_
          refine Pw.re (d := 13) (v' := .int .i64 ((i - (dn ++ [(curP h l k i dn.length, (A', c'))]).length * k : Nat) : Int)) rfl (by rw [el, ← hik, Nat.sub_self]; rfl) ?_
          exact Pw.arrive (dn ++ [(curP h l k i dn.length, (A', c'))], none, q1') ⟨hJ', by show i - _ * k < k; rw [el, ← hik]; omega⟩ ⟨rfl, rfl, rfl, rfl, rfl, rfl, rfl, trivial⟩ (by show _ = gLL none _ _ q1' _ _; rw [el, ez]; rfl) (fun w hw => allCons (hv w hw : PS l (za, zc) w) (allCons (fun p hp => by
            rcases List.mem_append.1 hp with hp | hp
            · exact (hv w hw : HeldAll dn w) p hp
            · rw [List.mem_singleton.1 hp]
              exact rows_of_cells (fun _ _ => rfl) (fun _ _ => trivial) hc (by simp only [maxLen]; omega) (by omega) (fact0 hw)) allNil))
        · repeat (first | (with_reducible first | refine Pw.seq ?_ | refine Pw.region ?_ | refine Pw.nil ?_ | refine Pw.then_ ?_ | refine Pw.skip ?_ | refine Pw.block ?_ | refine Pw.exit ?_ | refine Pw.inX ?_ | refine Pw.inN ?_ | refine Pw.inR ?_ | refine Pw.thenX ?_ | refine Pw.thenR ?_ | refine Pw.ret ?_) | refine Pw.list (Pw.pure rfl rfl rfl ?_) | refine Pw.inY rfl ?_ | refine Pw.list (Pw.off rfl rfl ?_) | refine Pw.condT rfl ?_ | refine Pw.condF rfl ?_ | refine Pw.list (Pw.box rfl rfl rfl rfl (fun _ => ?_)) | refine Pw.list (Pw.alloc rfl rfl rfl rfl rfl (fun _ => ?_)) | refine Pw.list (Pw.build rfl rfl rfl rfl ?_) | refine Pw.list (Pw.ld rfl inferInstance rfl rfl rfl ?_) | refine Pw.list (Pw.sto rfl rfl inferInstance rfl rfl rfl rfl rfl inferInstance rfl ?_))
          exact Pw.arrive (dn, q2, q1) ⟨⟨hD1, hdn, hq2, hq1⟩, by show i - dn.length * k < k; omega⟩ ⟨rfl, rfl, rfl, rfl, rfl, rfl, rfl, trivial⟩ rfl (fun w h => h)
      · clear hDk hcl hD3 hD2 hq1 hq2 hdn hD1
        rintro ⟨dm, r2, r1⟩ ⟨⟨hD1, hdn, hr2, hr1⟩, hD2⟩
        dsimp only at hD1 hD2 hdn hr2 hr1 ⊢
        have hcl := cur_len (h := h) (l := l) (k := k) (i := i) (D := dm.length)
        have hDk : dm.length ≤ dm.length * k := Nat.le_mul_of_pos_right _ (by omega)
        obtain _ | ⟨g1, cap1, ex1⟩ := r1
        · cases hr1.1
        refine Pw.use (p := za.isSome = true) (fun w h => (hv w h : PS l (za, zc) w).has (i := (i : Int)) (by omega) (by omega)) (fun hA => ?_)
        obtain ⟨zd, rfl⟩ := Option.isSome_iff_exists.1 hA
        have hw1 : wrap64 (((dm.length + 1 : Nat) : Int) - 1) = ((dm.length : Nat) : Int) := by rw [wi64 (by omega) (by omega)]; omega
        have hw2 : 0 ≤ wrap64 (((dm.length + 1 : Nat) : Int) - 1) ∧ wrap64 (((dm.length + 1 : Nat) : Int) - 1) < ((dm.length + 1 : Nat) : Int) := by rw [hw1]; omega
        obtain ⟨hw3, hw4⟩ := hw2
        have es := cur_snoc (h := h) (k := k) (D := dm.length) hp hD1
        have ecs : cellsP (curP h l k i dm.length) ++ encP p = cellsP (curP h l k (i + 1) dm.length) := by rw [es, cellsP_snoc]
        have ecl : (curP h l k i dm.length).length + 1 = (curP h l k (i + 1) dm.length).length := by rw [es, List.length_append]; rfl
        obtain ⟨cu, hcu⟩ : ∃ cu, cu = curP h l k i dm.length := ⟨_, rfl⟩
        rw [← hcu] at hr2 hr1 hcl ecs ecl ⊢
        repeat (first | (with_reducible first | refine Pw.seq ?_ | refine Pw.region ?_ | refine Pw.nil ?_ | refine Pw.then_ ?_ | refine Pw.skip ?_ | refine Pw.block ?_ | refine Pw.exit ?_ | refine Pw.inX ?_ | refine Pw.inN ?_ | refine Pw.inR ?_ | refine Pw.thenX ?_ | refine Pw.thenR ?_ | refine Pw.ret ?_) | refine Pw.list (Pw.pure rfl rfl rfl ?_) | refine Pw.inY rfl ?_ | refine Pw.list (Pw.off rfl rfl ?_) | refine Pw.condT rfl ?_ | refine Pw.condF rfl ?_ | refine Pw.list (Pw.box rfl rfl rfl rfl (fun _ => ?_)) | refine Pw.list (Pw.alloc rfl rfl rfl rfl rfl (fun _ => ?_)) | refine Pw.list (Pw.build rfl rfl rfl rfl ?_) | refine Pw.list (Pw.ld rfl inferInstance rfl rfl rfl ?_) | refine Pw.list (Pw.sto rfl rfl inferInstance rfl rfl rfl rfl rfl inferInstance rfl ?_))
        refine Pw.drawnG mixed rfl rfl ?_
        refine Pw.takeP 0 (nb 18 1) rfl rfl rfl rfl (by kernel_rfl) np sf ?_
        refine Pw.takeP 1 (nb 18 3) rfl rfl rfl rfl (by kernel_rfl) np sf ?_
        refine Pw.takeP 2 (nb 18 7) rfl rfl rfl rfl (by kernel_rfl) np sf ?_
        refine Pw.takeP 3 (nb 18 15) rfl rfl rfl rfl (by kernel_rfl) np sf ?_
        refine Pw.takeP 4 (nb 18 31) rfl rfl rfl rfl (by kernel_rfl) np sf ?_
        refine Pw.takeP 5 (nb 18 63) rfl rfl rfl rfl (by kernel_rfl) np sf ?_
        refine Pw.takeP 6 (nb 18 127) rfl rfl rfl rfl (by kernel_rfl) np sf ?_
        refine Pw.takeP 7 (nb 18 255) rfl rfl rfl rfl (by kernel_rfl) np sf ?_
        refine Pw.takeIx 8 (nb 18 511) rfl rfl rfl rfl rfl (by first | assumption | omega) (by first | assumption | omega) rfl rfl (by kernel_rfl) np sf ?_
        refine Pw.takeP 10 (nb 18 1535) rfl rfl rfl rfl (by kernel_rfl) np sf ?_
        refine Pw.takeP 11 (nb 18 3583) rfl rfl rfl rfl (by kernel_rfl) np sf ?_
        refine Pw.takeIx 12 (nb 18 7679) rfl rfl rfl rfl rfl (by first | assumption | omega) (by first | assumption | omega) rfl rfl (by kernel_rfl) np sf ?_
        refine Pw.two 9 13 (nb 18 8191) (nb 18 15871) rfl rfl (by kernel_rfl) ?_ ?_
        · skip
          refine Pw.load1 (v := gv r2 cu.length) rfl rfl (fun w hs => by
            have hb : w.heap[g1]? = some (row (outC dm (gv r2 cu.length) ++ ex1) 71) := hs.own _ (List.mem_append_right _ (.head _))
            show w.cell? (Addr.add ⟨g1, 0, none⟩ ((wrap64 (((dm.length + 1 : Nat) : Int) - 1)).toNat * 1)) = _
            rw [hw1, Int.toNat_natCast, Nat.mul_one, add_none, Nat.zero_add, cell_of_blk hb, outC_get]) rfl rfl ?_
          refine Pw.held sf ?_
          refine Pw.one 13 (nb 18 16383) rfl (by kernel_rfl) ?_
          refine Pw.loadR p rfl inferInstance rfl (by rw [Int.toNat_natCast]; exact hp) (by kernel_rfl) rfl rfl ?_
          refine Pw.re (d := 104) (v' := ptV p) rfl rfl ?_
          refine Pw.held sf ?_
          refine Pw.one 14 (nb 18 32767) rfl (by kernel_rfl) ?_
          refine Pw.lit12 rfl rfl rfl rfl rfl rfl rfl rfl rfl (fun g5 => freeHead ?_)
          refine Pw.held sf ?_
          refine Pw.one 15 (nb 18 65535) rfl (by kernel_rfl) ?_
          refine Pw.push (s := r2) (m := cu.length) (cells := cellsP cu) (news := encP p) (L0 := gL (some (g1, cap1, ex1)) (outC dm (gv r2 cu.length)) 71) rfl rfl rfl rfl rfl rfl rfl hr2 rfl (fun u hu => cellsP_one (l := [p]) u (by simpa [cellsP] using hu)) (fun w hs j' u hu => by
            have h1 : w.heap[g5]? = some (row (encP p) 81) := by first | exact fact0 hs.all | exact fact1 hs.all | exact fact2 hs.all
            rw [add_none, cell_of_blk h1]
            simpa [encP] using hu) (by omega) (by simp only [maxLen]; omega) (by show (cu.length + 1) * 16 ≤ _; omega) rfl rfl (fun r2' hr2' => ?_)
          rw [ecs, ecl] at hr2' ⊢
          refine Pw.held sf ?_
          refine Pw.takeIx 16 (nb 18 131071) rfl rfl rfl rfl rfl (by first | assumption | omega) (by first | assumption | omega) rfl rfl (by kernel_rfl) np sf ?_
          refine Pw.one 17 (nb 18 262143) rfl (by kernel_rfl) ?_
          refine Pw.perm List.perm_append_comm ?_
          refine Pw.re (d := 107) (v' := .pointer (some ⟨g1, dm.length, none⟩)) rfl (by show Value.pointer (some (Addr.add ⟨g1, 0, none⟩ ((wrap64 (((dm.length + 1 : Nat) : Int) - 1)).toNat * 1))) = _; rw [hw1, Int.toNat_natCast, Nat.mul_one, add_none, Nat.zero_add]) ?_
          refine Pw.storeO (cs := outC dm (gv r2 cu.length) ++ ex1) (cs' := outC dm (gv r2' (curP h l k (i + 1) dm.length).length) ++ ex1) rfl rfl rfl rfl (by cases r2' <;> rfl) (by rw [List.length_append, outC_len]; omega) (outC_set ..) .head rfl ?_
          refine Pw.perm (L' := gLL r2' (cellsP (curP h l k (i + 1) dm.length)) 81 (some (g1, cap1, ex1)) (outC dm (gv r2' (curP h l k (i + 1) dm.length).length)) 71) permHead ?_
          refine Pw.held sf ?_
          refine Pw.done (by kernel_rfl) ?_
          repeat (first | (with_reducible first | refine Pw.seq ?_ | refine Pw.region ?_ | refine Pw.nil ?_ | refine Pw.then_ ?_ | refine Pw.skip ?_ | refine Pw.block ?_ | refine Pw.exit ?_ | refine Pw.inX ?_ | refine Pw.inN ?_ | refine Pw.inR ?_ | refine Pw.thenX ?_ | refine Pw.thenR ?_ | refine Pw.ret ?_) | refine Pw.list (Pw.pure rfl rfl rfl ?_) | refine Pw.inY rfl ?_ | refine Pw.list (Pw.off rfl rfl ?_) | refine Pw.condT rfl ?_ | refine Pw.condF rfl ?_ | refine Pw.list (Pw.box rfl rfl rfl rfl (fun _ => ?_)) | refine Pw.list (Pw.alloc rfl rfl rfl rfl rfl (fun _ => ?_)) | refine Pw.list (Pw.build rfl rfl rfl rfl ?_) | refine Pw.list (Pw.ld rfl inferInstance rfl rfl rfl ?_) | refine Pw.list (Pw.sto rfl rfl inferInstance rfl rfl rfl rfl rfl inferInstance rfl ?_))
          refine Pw.re (d := 13) (v' := .int .i64 ((i + 1 - dm.length * k : Nat) : Int)) rfl (congrArg (Value.int .i64) (by rw [wi64 (by omega) (by omega)]; omega)) ?_
          refine Pw.re (d := 82) (v' := .int .i64 ((i + 1 : Nat) : Int)) rfl (congrArg (Value.int .i64) (i64s (n := 100000) (by omega) (by omega))) ?_
          exact Pw.again (i + 1, dm, r2', some (g1, cap1, ex1)) ⟨by omega, ⟨by show dm.length * k ≤ i + 1; omega, hdn, hr2', outC_ok hr1⟩, by show i + 1 - dm.length * k ≤ k; omega, fun _ => by show dm.length * k < i + 1; omega⟩ (by show l.length - (i + 1) < l.length - i; omega) ⟨rfl, rfl, rfl, rfl, rfl, rfl, trivial⟩ rfl (fun w h => allCons (hv w h) (allCons (hv w h) allNil))
        · skip
          refine Pw.loadR p rfl inferInstance rfl (by rw [Int.toNat_natCast]; exact hp) (by kernel_rfl) rfl rfl ?_
          refine Pw.re (d := 104) (v' := ptV p) rfl rfl ?_
          refine Pw.held sf ?_
          refine Pw.two 9 14 (nb 18 16383) (nb 18 32255) rfl rfl (by kernel_rfl) ?_ ?_
          · skip
            refine Pw.load1 (v := gv r2 cu.length) rfl rfl (fun w hs => by
              have hb : w.heap[g1]? = some (row (outC dm (gv r2 cu.length) ++ ex1) 71) := hs.own _ (List.mem_append_right _ (.head _))
              show w.cell? (Addr.add ⟨g1, 0, none⟩ ((wrap64 (((dm.length + 1 : Nat) : Int) - 1)).toNat * 1)) = _
              rw [hw1, Int.toNat_natCast, Nat.mul_one, add_none, Nat.zero_add, cell_of_blk hb, outC_get]) rfl rfl ?_
            refine Pw.held sf ?_
            refine Pw.one 14 (nb 18 32767) rfl (by kernel_rfl) ?_
            refine Pw.lit12 rfl rfl rfl rfl rfl rfl rfl rfl rfl (fun g5 => freeHead ?_)
            refine Pw.held sf ?_
            refine Pw.one 15 (nb 18 65535) rfl (by kernel_rfl) ?_
            refine Pw.push (s := r2) (m := cu.length) (cells := cellsP cu) (news := encP p) (L0 := gL (some (g1, cap1, ex1)) (outC dm (gv r2 cu.length)) 71) rfl rfl rfl rfl rfl rfl rfl hr2 rfl (fun u hu => cellsP_one (l := [p]) u (by simpa [cellsP] using hu)) (fun w hs j' u hu => by
              have h1 : w.heap[g5]? = some (row (encP p) 81) := by first | exact fact0 hs.all | exact fact1 hs.all | exact fact2 hs.all
              rw [add_none, cell_of_blk h1]
              simpa [encP] using hu) (by omega) (by simp only [maxLen]; omega) (by show (cu.length + 1) * 16 ≤ _; omega) rfl rfl (fun r2' hr2' => ?_)
            rw [ecs, ecl] at hr2' ⊢
            refine Pw.held sf ?_
            refine Pw.takeIx 16 (nb 18 131071) rfl rfl rfl rfl rfl (by first | assumption | omega) (by first | assumption | omega) rfl rfl (by kernel_rfl) np sf ?_
            refine Pw.one 17 (nb 18 262143) rfl (by kernel_rfl) ?_
            refine Pw.perm List.perm_append_comm ?_
            refine Pw.re (d := 107) (v' := .pointer (some ⟨g1, dm.length, none⟩)) rfl (by show Value.pointer (some (Addr.add ⟨g1, 0, none⟩ ((wrap64 (((dm.length + 1 : Nat) : Int) - 1)).toNat * 1))) = _; rw [hw1, Int.toNat_natCast, Nat.mul_one, add_none, Nat.zero_add]) ?_
            refine Pw.storeO (cs := outC dm (gv r2 cu.length) ++ ex1) (cs' := outC dm (gv r2' (curP h l k (i + 1) dm.length).length) ++ ex1) rfl rfl rfl rfl (by cases r2' <;> rfl) (by rw [List.length_append, outC_len]; omega) (outC_set ..) .head rfl ?_
            refine Pw.perm (L' := gLL r2' (cellsP (curP h l k (i + 1) dm.length)) 81 (some (g1, cap1, ex1)) (outC dm (gv r2' (curP h l k (i + 1) dm.length).length)) 71) permHead ?_
            refine Pw.held sf ?_
            refine Pw.done (by kernel_rfl) ?_
            repeat (first | (with_reducible first | refine Pw.seq ?_ | refine Pw.region ?_ | refine Pw.nil ?_ | refine Pw.then_ ?_ | refine Pw.skip ?_ | refine Pw.block ?_ | refine Pw.exit ?_ | refine Pw.inX ?_ | refine Pw.inN ?_ | refine Pw.inR ?_ | refine Pw.thenX ?_ | refine Pw.thenR ?_ | refine Pw.ret ?_) | refine Pw.list (Pw.pure rfl rfl rfl ?_) | refine Pw.inY rfl ?_ | refine Pw.list (Pw.off rfl rfl ?_) | refine Pw.condT rfl ?_ | refine Pw.condF rfl ?_ | refine Pw.list (Pw.box rfl rfl rfl rfl (fun _ => ?_)) | refine Pw.list (Pw.alloc rfl rfl rfl rfl rfl (fun _ => ?_)) | refine Pw.list (Pw.build rfl rfl rfl rfl ?_) | refine Pw.list (Pw.ld rfl inferInstance rfl rfl rfl ?_) | refine Pw.list (Pw.sto rfl rfl inferInstance rfl rfl rfl rfl rfl inferInstance rfl ?_))
            refine Pw.re (d := 13) (v' := .int .i64 ((i + 1 - dm.length * k : Nat) : Int)) rfl (congrArg (Value.int .i64) (by rw [wi64 (by omega) (by omega)]; omega)) ?_
            refine Pw.re (d := 82) (v' := .int .i64 ((i + 1 : Nat) : Int)) rfl (congrArg (Value.int .i64) (i64s (n := 100000) (by omega) (by omega))) ?_
            exact Pw.again (i + 1, dm, r2', some (g1, cap1, ex1)) ⟨by omega, ⟨by show dm.length * k ≤ i + 1; omega, hdn, hr2', outC_ok hr1⟩, by show i + 1 - dm.length * k ≤ k; omega, fun _ => by show dm.length * k < i + 1; omega⟩ (by show l.length - (i + 1) < l.length - i; omega) ⟨rfl, rfl, rfl, rfl, rfl, rfl, trivial⟩ rfl (fun w h => allCons (hv w h) (allCons (hv w h) allNil))
          · skip
            refine Pw.lit12 rfl rfl rfl rfl rfl rfl rfl rfl rfl (fun g5 => freeHead ?_)
            refine Pw.held sf ?_
            refine Pw.one 9 (nb 18 32767) rfl (by kernel_rfl) ?_
            refine Pw.load1 (v := gv r2 cu.length) rfl rfl (fun w hs => by
              have hb : w.heap[g1]? = some (row (outC dm (gv r2 cu.length) ++ ex1) 71) := hs.own _ (List.mem_append_right _ (.head _))
              show w.cell? (Addr.add ⟨g1, 0, none⟩ ((wrap64 (((dm.length + 1 : Nat) : Int) - 1)).toNat * 1)) = _
              rw [hw1, Int.toNat_natCast, Nat.mul_one, add_none, Nat.zero_add, cell_of_blk hb, outC_get]) rfl rfl ?_
            refine Pw.held sf ?_
            refine Pw.one 15 (nb 18 65535) rfl (by kernel_rfl) ?_
            refine Pw.push (s := r2) (m := cu.length) (cells := cellsP cu) (news := encP p) (L0 := gL (some (g1, cap1, ex1)) (outC dm (gv r2 cu.length)) 71) rfl rfl rfl rfl rfl rfl rfl hr2 rfl (fun u hu => cellsP_one (l := [p]) u (by simpa [cellsP] using hu)) (fun w hs j' u hu => by
              have h1 : w.heap[g5]? = some (row (encP p) 81) := by first | exact fact0 hs.all | exact fact1 hs.all | exact fact2 hs.all
              rw [add_none, cell_of_blk h1]
              simpa [encP] using hu) (by omega) (by simp only [maxLen]; omega) (by show (cu.length + 1) * 16 ≤ _; omega) rfl rfl (fun r2' hr2' => ?_)
            rw [ecs, ecl] at hr2' ⊢
            refine Pw.held sf ?_
            refine Pw.takeIx 16 (nb 18 131071) rfl rfl rfl rfl rfl (by first | assumption | omega) (by first | assumption | omega) rfl rfl (by kernel_rfl) np sf ?_
            refine Pw.one 17 (nb 18 262143) rfl (by kernel_rfl) ?_
            refine Pw.perm List.perm_append_comm ?_
            refine Pw.re (d := 107) (v' := .pointer (some ⟨g1, dm.length, none⟩)) rfl (by show Value.pointer (some (Addr.add ⟨g1, 0, none⟩ ((wrap64 (((dm.length + 1 : Nat) : Int) - 1)).toNat * 1))) = _; rw [hw1, Int.toNat_natCast, Nat.mul_one, add_none, Nat.zero_add]) ?_
            refine Pw.storeO (cs := outC dm (gv r2 cu.length) ++ ex1) (cs' := outC dm (gv r2' (curP h l k (i + 1) dm.length).length) ++ ex1) rfl rfl rfl rfl (by cases r2' <;> rfl) (by rw [List.length_append, outC_len]; omega) (outC_set ..) .head rfl ?_
            refine Pw.perm (L' := gLL r2' (cellsP (curP h l k (i + 1) dm.length)) 81 (some (g1, cap1, ex1)) (outC dm (gv r2' (curP h l k (i + 1) dm.length).length)) 71) permHead ?_
            refine Pw.held sf ?_
            refine Pw.done (by kernel_rfl) ?_
            repeat (first | (with_reducible first | refine Pw.seq ?_ | refine Pw.region ?_ | refine Pw.nil ?_ | refine Pw.then_ ?_ | refine Pw.skip ?_ | refine Pw.block ?_ | refine Pw.exit ?_ | refine Pw.inX ?_ | refine Pw.inN ?_ | refine Pw.inR ?_ | refine Pw.thenX ?_ | refine Pw.thenR ?_ | refine Pw.ret ?_) | refine Pw.list (Pw.pure rfl rfl rfl ?_) | refine Pw.inY rfl ?_ | refine Pw.list (Pw.off rfl rfl ?_) | refine Pw.condT rfl ?_ | refine Pw.condF rfl ?_ | refine Pw.list (Pw.box rfl rfl rfl rfl (fun _ => ?_)) | refine Pw.list (Pw.alloc rfl rfl rfl rfl rfl (fun _ => ?_)) | refine Pw.list (Pw.build rfl rfl rfl rfl ?_) | refine Pw.list (Pw.ld rfl inferInstance rfl rfl rfl ?_) | refine Pw.list (Pw.sto rfl rfl inferInstance rfl rfl rfl rfl rfl inferInstance rfl ?_))
            refine Pw.re (d := 13) (v' := .int .i64 ((i + 1 - dm.length * k : Nat) : Int)) rfl (congrArg (Value.int .i64) (by rw [wi64 (by omega) (by omega)]; omega)) ?_
            refine Pw.re (d := 82) (v' := .int .i64 ((i + 1 : Nat) : Int)) rfl (congrArg (Value.int .i64) (i64s (n := 100000) (by omega) (by omega))) ?_
            exact Pw.again (i + 1, dm, r2', some (g1, cap1, ex1)) ⟨by omega, ⟨by show dm.length * k ≤ i + 1; omega, hdn, hr2', outC_ok hr1⟩, by show i + 1 - dm.length * k ≤ k; omega, fun _ => by show dm.length * k < i + 1; omega⟩ (by show l.length - (i + 1) < l.length - i; omega) ⟨rfl, rfl, rfl, rfl, rfl, rfl, trivial⟩ rfl (fun w h => allCons (hv w h) (allCons (hv w h) allNil))
    · obtain rfl : i = l.length := by omega
      have hnc := nCh_is (k := k) (n := l.length) (D := dn.length) (by omega) hD2 hD3
      rw [show oth.length = l.length by omega, hnc] at hpg
      rw [hpg]
      have eD : curP h l k l.length dn.length = pgAt h l k dn.length := cur_last hD2
      repeat (first | (with_reducible first | refine Pw.seq ?_ | refine Pw.region ?_ | refine Pw.nil ?_ | refine Pw.then_ ?_ | refine Pw.skip ?_ | refine Pw.block ?_ | refine Pw.exit ?_ | refine Pw.inX ?_ | refine Pw.inN ?_ | refine Pw.inR ?_ | refine Pw.thenX ?_ | refine Pw.thenR ?_ | refine Pw.ret ?_) | refine Pw.list (Pw.pure rfl rfl rfl ?_) | refine Pw.inY rfl ?_ | refine Pw.list (Pw.off rfl rfl ?_) | refine Pw.condT rfl ?_ | refine Pw.condF rfl ?_ | refine Pw.list (Pw.box rfl rfl rfl rfl (fun _ => ?_)) | refine Pw.list (Pw.alloc rfl rfl rfl rfl rfl (fun _ => ?_)) | refine Pw.list (Pw.build rfl rfl rfl rfl ?_) | refine Pw.list (Pw.ld rfl inferInstance rfl rfl rfl ?_) | refine Pw.list (Pw.sto rfl rfl inferInstance rfl rfl rfl rfl rfl inferInstance rfl ?_))
      refine Pw.freeG hq2 (fun A' c' e hc => ?_)
      rw [e] at hq1 ⊢
      have e1 : outC dn (.slice A' (curP h l k l.length dn.length).length c') = cellsPg (dn ++ [(curP h l k l.length dn.length, (A', c'))]) := by unfold outC; rw [cellsPg_snoc]
      rw [e1] at hq1 ⊢
      refine Pw.eqL (L' := gL q1 (cellsPg (dn ++ [(curP h l k l.length dn.length, (A', c'))])) 71 ++ []) (by simp) ?_
      refine Pw.freeG hq1 (fun B cb eB hcb => ?_)
      refine Pw.re (d := 4) (v' := .slice B (dn.length + 1) cb) rfl eB ?_
      exact Pw.ret_ (x := (dn ++ [(curP h l k l.length dn.length, (A', c'))], (B, cb))) (.tmp rfl (.tmp rfl .nil)) (by rw [List.length_map, List.length_range, Nat.add_comm]; rfl) (by rw [List.map_append, hdn, Nat.add_comm 1, List.range_succ, List.map_append, List.map_singleton, List.map_singleton, ← eD]) (fun w hw => rows_of_cells (fun _ _ => rfl) (fun y hy => by
        rcases List.mem_append.1 hy with hy | hy
        · exact (hv w hw : HeldAll dn w) y hy
        · rw [List.mem_singleton.1 hy]
          exact rows_of_cells (fun _ _ => rfl) (fun _ _ => trivial) hc (by simp only [maxLen]; omega) (by omega) (fact1 hw)) (by rw [List.length_append]; exact hcb) (by rw [List.length_append, List.length_singleton]; simp only [maxLen]; omega) (by omega) (fact0 hw))
end Go.Proofs.Wk
/- The law PagesCut walked. -/
namespace Go.Proofs.Wk
open Go.RowKit
set_option maxRecDepth 100000
set_option maxHeartbeats 4000000
attribute [local irreducible] Pw OpG
set_option linter.unusedVariables false
set_option linter.unusedSimpArgs false
theorem pagesR_len (x : Ex) (size : Int) (hl : x.oth.length ≤ 200) : (pagesR x size).1.length ≤ 201 := by
  unfold pagesR
  split
  · simp
  · rename_i h
    split
    · simp
    · have := pages_len (x := x) (k := size.toNat) (by omega)
      have h2 := nCh_le (k := size.toNat) (n := x.oth.length) (by omega)
      show (pagesS x size.toNat).length ≤ 201
      omega
theorem PagesCut_ct (x : Ex) (hx : ExW x) (size id : Int) (hs : size ≤ 9223372036854775807) : Ct Try.prog 11 #[exV x, .int .i64 size, .int .i64 id] (exF x) (fun _ : Unit => .bool true) Tt (fun _ _ => True) := by
  refine Ct.start Try.func11 rfl rfl (slots_of rfl slots3) (fun D w0 => ?_)
  repeat (first | (with_reducible first | refine Pw.seq ?_ | refine Pw.region ?_ | refine Pw.nil ?_ | refine Pw.then_ ?_ | refine Pw.skip ?_ | refine Pw.block ?_ | refine Pw.exit ?_ | refine Pw.inX ?_ | refine Pw.inN ?_ | refine Pw.inR ?_ | refine Pw.thenX ?_ | refine Pw.thenR ?_ | refine Pw.ret ?_) | refine Pw.list (Pw.pure rfl rfl rfl ?_) | refine Pw.inY rfl ?_ | refine Pw.list (Pw.off rfl rfl ?_) | refine Pw.condT rfl ?_ | refine Pw.condF rfl ?_)
  refine Pw.list (Pw.box rfl rfl rfl rfl (fun g1 => freeHead ?_))
  repeat (first | (with_reducible first | refine Pw.seq ?_ | refine Pw.region ?_ | refine Pw.nil ?_ | refine Pw.then_ ?_ | refine Pw.skip ?_ | refine Pw.block ?_ | refine Pw.exit ?_ | refine Pw.inX ?_ | refine Pw.inN ?_ | refine Pw.inR ?_ | refine Pw.thenX ?_ | refine Pw.thenR ?_ | refine Pw.ret ?_) | refine Pw.list (Pw.pure rfl rfl rfl ?_) | refine Pw.inY rfl ?_ | refine Pw.list (Pw.off rfl rfl ?_) | refine Pw.condT rfl ?_ | refine Pw.condF rfl ?_ | refine Pw.list (Pw.box rfl rfl rfl rfl (fun _ => ?_)) | refine Pw.list (Pw.alloc rfl rfl rfl rfl rfl (fun _ => ?_)) | refine Pw.list (Pw.build rfl rfl rfl rfl ?_) | refine Pw.list (Pw.ld rfl inferInstance rfl rfl rfl ?_) | refine Pw.list (Pw.sto rfl rfl inferInstance rfl rfl rfl rfl rfl inferInstance rfl ?_))
  refine Pw.list (Pw.call pawake_ct rfl rfl rfl (by kernel_rfl) rfl rfl (fun w h => trivial) ?_)
  intro _ _
  repeat (first | (with_reducible first | refine Pw.seq ?_ | refine Pw.region ?_ | refine Pw.nil ?_ | refine Pw.then_ ?_ | refine Pw.skip ?_ | refine Pw.block ?_ | refine Pw.exit ?_ | refine Pw.inX ?_ | refine Pw.inN ?_ | refine Pw.inR ?_ | refine Pw.thenX ?_ | refine Pw.thenR ?_ | refine Pw.ret ?_) | refine Pw.list (Pw.pure rfl rfl rfl ?_) | refine Pw.inY rfl ?_ | refine Pw.list (Pw.off rfl rfl ?_) | refine Pw.condT rfl ?_ | refine Pw.condF rfl ?_ | refine Pw.list (Pw.box rfl rfl rfl rfl (fun _ => ?_)) | refine Pw.list (Pw.alloc rfl rfl rfl rfl rfl (fun _ => ?_)) | refine Pw.list (Pw.build rfl rfl rfl rfl ?_) | refine Pw.list (Pw.ld rfl inferInstance rfl rfl rfl ?_) | refine Pw.list (Pw.sto rfl rfl inferInstance rfl rfl rfl rfl rfl inferInstance rfl ?_))
  refine Pw.list (Pw.call (few_ct x) rfl rfl rfl (by kernel_rfl) rfl rfl (fun w h => trivial) ?_)
  intro r hr
  cases r
  · repeat (first | (with_reducible first | refine Pw.seq ?_ | refine Pw.region ?_ | refine Pw.nil ?_ | refine Pw.then_ ?_ | refine Pw.skip ?_ | refine Pw.block ?_ | refine Pw.exit ?_ | refine Pw.inX ?_ | refine Pw.inN ?_ | refine Pw.inR ?_ | refine Pw.thenX ?_ | refine Pw.thenR ?_ | refine Pw.ret ?_) | refine Pw.list (Pw.pure rfl rfl rfl ?_) | refine Pw.inY rfl ?_ | refine Pw.list (Pw.off rfl rfl ?_) | refine Pw.condT rfl ?_ | refine Pw.condF rfl ?_ | refine Pw.list (Pw.box rfl rfl rfl rfl (fun _ => ?_)) | refine Pw.list (Pw.alloc rfl rfl rfl rfl rfl (fun _ => ?_)) | refine Pw.list (Pw.build rfl rfl rfl rfl ?_) | refine Pw.list (Pw.ld rfl inferInstance rfl rfl rfl ?_) | refine Pw.list (Pw.sto rfl rfl inferInstance rfl rfl rfl rfl rfl inferInstance rfl ?_))
    refine Pw.list (Pw.call pawake_ct rfl rfl rfl (by kernel_rfl) rfl rfl (fun w h => trivial) ?_)
    intro _ _
    repeat (first | (with_reducible first | refine Pw.seq ?_ | refine Pw.region ?_ | refine Pw.nil ?_ | refine Pw.then_ ?_ | refine Pw.skip ?_ | refine Pw.block ?_ | refine Pw.exit ?_ | refine Pw.inX ?_ | refine Pw.inN ?_ | refine Pw.inR ?_ | refine Pw.thenX ?_ | refine Pw.thenR ?_ | refine Pw.ret ?_) | refine Pw.list (Pw.pure rfl rfl rfl ?_) | refine Pw.inY rfl ?_ | refine Pw.list (Pw.off rfl rfl ?_) | refine Pw.condT rfl ?_ | refine Pw.condF rfl ?_ | refine Pw.list (Pw.box rfl rfl rfl rfl (fun _ => ?_)) | refine Pw.list (Pw.alloc rfl rfl rfl rfl rfl (fun _ => ?_)) | refine Pw.list (Pw.build rfl rfl rfl rfl ?_) | refine Pw.list (Pw.ld rfl inferInstance rfl rfl rfl ?_) | refine Pw.list (Pw.sto rfl rfl inferInstance rfl rfl rfl rfl rfl inferInstance rfl ?_))
    exact Pw.ret_ (x := ()) (.tmp rfl .nil) rfl trivial (fun w h => by trivial)
  have hl : x.oth.length ≤ 200 := hr rfl
  repeat (first | (with_reducible first | refine Pw.seq ?_ | refine Pw.region ?_ | refine Pw.nil ?_ | refine Pw.then_ ?_ | refine Pw.skip ?_ | refine Pw.block ?_ | refine Pw.exit ?_ | refine Pw.inX ?_ | refine Pw.inN ?_ | refine Pw.inR ?_ | refine Pw.thenX ?_ | refine Pw.thenR ?_ | refine Pw.ret ?_) | refine Pw.list (Pw.pure rfl rfl rfl ?_) | refine Pw.inY rfl ?_ | refine Pw.list (Pw.off rfl rfl ?_) | refine Pw.condT rfl ?_ | refine Pw.condF rfl ?_ | refine Pw.list (Pw.box rfl rfl rfl rfl (fun _ => ?_)) | refine Pw.list (Pw.alloc rfl rfl rfl rfl rfl (fun _ => ?_)) | refine Pw.list (Pw.build rfl rfl rfl rfl ?_) | refine Pw.list (Pw.ld rfl inferInstance rfl rfl rfl ?_) | refine Pw.list (Pw.sto rfl rfl inferInstance rfl rfl rfl rfl rfl inferInstance rfl ?_))
  refine Pw.list (Pw.call (pTheirs_ct x) rfl rfl rfl (by kernel_rfl) rfl rfl (fun w h => trivial) ?_)
  intro _ _
  repeat (first | (with_reducible first | refine Pw.seq ?_ | refine Pw.region ?_ | refine Pw.nil ?_ | refine Pw.then_ ?_ | refine Pw.skip ?_ | refine Pw.block ?_ | refine Pw.exit ?_ | refine Pw.inX ?_ | refine Pw.inN ?_ | refine Pw.inR ?_ | refine Pw.thenX ?_ | refine Pw.thenR ?_ | refine Pw.ret ?_) | refine Pw.list (Pw.pure rfl rfl rfl ?_) | refine Pw.inY rfl ?_ | refine Pw.list (Pw.off rfl rfl ?_) | refine Pw.condT rfl ?_ | refine Pw.condF rfl ?_ | refine Pw.list (Pw.box rfl rfl rfl rfl (fun _ => ?_)) | refine Pw.list (Pw.alloc rfl rfl rfl rfl rfl (fun _ => ?_)) | refine Pw.list (Pw.build rfl rfl rfl rfl ?_) | refine Pw.list (Pw.ld rfl inferInstance rfl rfl rfl ?_) | refine Pw.list (Pw.sto rfl rfl inferInstance rfl rfl rfl rfl rfl inferInstance rfl ?_))
  refine Pw.list (Pw.call (pPages_ct x hx (by omega) size hs) rfl rfl rfl (by kernel_rfl) rfl rfl (fun w h => (hv w h)) ?_)
  rintro ⟨P1, A1, c1⟩ hP1
  dsimp only at hP1 ⊢
  repeat (first | (with_reducible first | refine Pw.seq ?_ | refine Pw.region ?_ | refine Pw.nil ?_ | refine Pw.then_ ?_ | refine Pw.skip ?_ | refine Pw.block ?_ | refine Pw.exit ?_ | refine Pw.inX ?_ | refine Pw.inN ?_ | refine Pw.inR ?_ | refine Pw.thenX ?_ | refine Pw.thenR ?_ | refine Pw.ret ?_) | refine Pw.list (Pw.pure rfl rfl rfl ?_) | refine Pw.inY rfl ?_ | refine Pw.list (Pw.off rfl rfl ?_) | refine Pw.condT rfl ?_ | refine Pw.condF rfl ?_ | refine Pw.list (Pw.box rfl rfl rfl rfl (fun _ => ?_)) | refine Pw.list (Pw.alloc rfl rfl rfl rfl rfl (fun _ => ?_)) | refine Pw.list (Pw.build rfl rfl rfl rfl ?_) | refine Pw.list (Pw.ld rfl inferInstance rfl rfl rfl ?_) | refine Pw.list (Pw.sto rfl rfl inferInstance rfl rfl rfl rfl rfl inferInstance rfl ?_))
  refine Pw.list (Pw.call (rPages_ct x hx (by omega) size hs) rfl rfl rfl (by kernel_rfl) rfl rfl (fun w h => (hv w h)) ?_)
  rintro ⟨P2, A2, c2⟩ hP2
  dsimp only at hP2 ⊢
  repeat (first | (with_reducible first | refine Pw.seq ?_ | refine Pw.region ?_ | refine Pw.nil ?_ | refine Pw.then_ ?_ | refine Pw.skip ?_ | refine Pw.block ?_ | refine Pw.exit ?_ | refine Pw.inX ?_ | refine Pw.inN ?_ | refine Pw.inR ?_ | refine Pw.thenX ?_ | refine Pw.thenR ?_ | refine Pw.ret ?_) | refine Pw.list (Pw.pure rfl rfl rfl ?_) | refine Pw.inY rfl ?_ | refine Pw.list (Pw.off rfl rfl ?_) | refine Pw.condT rfl ?_ | refine Pw.condF rfl ?_ | refine Pw.list (Pw.box rfl rfl rfl rfl (fun _ => ?_)) | refine Pw.list (Pw.alloc rfl rfl rfl rfl rfl (fun _ => ?_)) | refine Pw.list (Pw.build rfl rfl rfl rfl ?_) | refine Pw.list (Pw.ld rfl inferInstance rfl rfl rfl ?_) | refine Pw.list (Pw.sto rfl rfl inferInstance rfl rfl rfl rfl rfl inferInstance rfl ?_))
  refine Pw.list (Pw.call (pTheirs_ct x) rfl rfl rfl (by kernel_rfl) rfl rfl (fun w h => trivial) ?_)
  intro _ _
  repeat (first | (with_reducible first | refine Pw.seq ?_ | refine Pw.region ?_ | refine Pw.nil ?_ | refine Pw.then_ ?_ | refine Pw.skip ?_ | refine Pw.block ?_ | refine Pw.exit ?_ | refine Pw.inX ?_ | refine Pw.inN ?_ | refine Pw.inR ?_ | refine Pw.thenX ?_ | refine Pw.thenR ?_ | refine Pw.ret ?_) | refine Pw.list (Pw.pure rfl rfl rfl ?_) | refine Pw.inY rfl ?_ | refine Pw.list (Pw.off rfl rfl ?_) | refine Pw.condT rfl ?_ | refine Pw.condF rfl ?_ | refine Pw.list (Pw.box rfl rfl rfl rfl (fun _ => ?_)) | refine Pw.list (Pw.alloc rfl rfl rfl rfl rfl (fun _ => ?_)) | refine Pw.list (Pw.build rfl rfl rfl rfl ?_) | refine Pw.list (Pw.ld rfl inferInstance rfl rfl rfl ?_) | refine Pw.list (Pw.sto rfl rfl inferInstance rfl rfl rfl rfl rfl inferInstance rfl ?_))
  refine Pw.list (Pw.call (pTotal_ct x hx (by omega)) rfl rfl rfl (by kernel_rfl) rfl rfl (fun w h => (hv w h)) ?_)
  intro _ _
  repeat (first | (with_reducible first | refine Pw.seq ?_ | refine Pw.region ?_ | refine Pw.nil ?_ | refine Pw.then_ ?_ | refine Pw.skip ?_ | refine Pw.block ?_ | refine Pw.exit ?_ | refine Pw.inX ?_ | refine Pw.inN ?_ | refine Pw.inR ?_ | refine Pw.thenX ?_ | refine Pw.thenR ?_ | refine Pw.ret ?_) | refine Pw.list (Pw.pure rfl rfl rfl ?_) | refine Pw.inY rfl ?_ | refine Pw.list (Pw.off rfl rfl ?_) | refine Pw.condT rfl ?_ | refine Pw.condF rfl ?_ | refine Pw.list (Pw.box rfl rfl rfl rfl (fun _ => ?_)) | refine Pw.list (Pw.alloc rfl rfl rfl rfl rfl (fun _ => ?_)) | refine Pw.list (Pw.build rfl rfl rfl rfl ?_) | refine Pw.list (Pw.ld rfl inferInstance rfl rfl rfl ?_) | refine Pw.list (Pw.sto rfl rfl inferInstance rfl rfl rfl rfl rfl inferInstance rfl ?_))
  refine Pw.list (Pw.call (rTotal_ct x hx (by omega)) rfl rfl rfl (by kernel_rfl) rfl rfl (fun w h => (hv w h)) ?_)
  intro _ _
  repeat (first | (with_reducible first | refine Pw.seq ?_ | refine Pw.region ?_ | refine Pw.nil ?_ | refine Pw.then_ ?_ | refine Pw.skip ?_ | refine Pw.block ?_ | refine Pw.exit ?_ | refine Pw.inX ?_ | refine Pw.inN ?_ | refine Pw.inR ?_ | refine Pw.thenX ?_ | refine Pw.thenR ?_ | refine Pw.ret ?_) | refine Pw.list (Pw.pure rfl rfl rfl ?_) | refine Pw.inY rfl ?_ | refine Pw.list (Pw.off rfl rfl ?_) | refine Pw.condT rfl ?_ | refine Pw.condF rfl ?_ | refine Pw.list (Pw.box rfl rfl rfl rfl (fun _ => ?_)) | refine Pw.list (Pw.alloc rfl rfl rfl rfl rfl (fun _ => ?_)) | refine Pw.list (Pw.build rfl rfl rfl rfl ?_) | refine Pw.list (Pw.ld rfl inferInstance rfl rfl rfl ?_) | refine Pw.list (Pw.sto rfl rfl inferInstance rfl rfl rfl rfl rfl inferInstance rfl ?_))
  have hpl := pagesR_len x size hl
  obtain ⟨ps, hps⟩ : ∃ ps, ps = (pagesR x size).1 := ⟨_, rfl⟩
  rw [← hps] at hP1 hP2 hpl ⊢
  have hl1 : P1.length = ps.length := by rw [← hP1, List.length_map]
  have hl2 : P2.length = ps.length := by rw [← hP2, List.length_map]
  refine Pw.facts (G' := [fun W => W.heap[g1]? = some (row (exL x) 73), PGS P1 (A1, c1), PGS P2 (A2, c2), PS x.oth x.z]) (fun w h => allCons (by first | exact fact0 (h) | exact fact0 (allTail (h)) | exact fact0 (allTail (allTail (h))) | exact fact0 (allTail (allTail (allTail (h)))) | exact fact0 (allTail (allTail (allTail (allTail (h))))) | exact fact0 (allTail (allTail (allTail (allTail (allTail (h)))))) | exact fact0 (allTail (allTail (allTail (allTail (allTail (allTail (h))))))) | exact fact0 (allTail (allTail (allTail (allTail (allTail (allTail (allTail (h)))))))) | exact fact0 (allTail (allTail (allTail (allTail (allTail (allTail (allTail (allTail (h))))))))) | exact fact0 (allTail (allTail (allTail (allTail (allTail (allTail (allTail (allTail (allTail (h))))))))))) (allCons (hv w h) (allCons (hv w h) (allCons (hv w h) allNil)))) ?_
  repeat (first | (with_reducible first | refine Pw.seq ?_ | refine Pw.region ?_ | refine Pw.nil ?_ | refine Pw.then_ ?_ | refine Pw.skip ?_ | refine Pw.block ?_ | refine Pw.exit ?_ | refine Pw.inX ?_ | refine Pw.inN ?_ | refine Pw.inR ?_ | refine Pw.thenX ?_ | refine Pw.thenR ?_ | refine Pw.ret ?_) | refine Pw.list (Pw.pure rfl rfl rfl ?_) | refine Pw.inY rfl ?_ | refine Pw.list (Pw.off rfl rfl ?_) | refine Pw.condT rfl ?_ | refine Pw.condF rfl ?_ | refine Pw.list (Pw.box rfl rfl rfl rfl (fun _ => ?_)) | refine Pw.list (Pw.alloc rfl rfl rfl rfl rfl (fun _ => ?_)) | refine Pw.list (Pw.build rfl rfl rfl rfl ?_) | refine Pw.list (Pw.ld rfl inferInstance rfl rfl rfl ?_) | refine Pw.list (Pw.sto rfl rfl inferInstance rfl rfl rfl rfl rfl inferInstance rfl ?_))
  refine Pw.drawnG mixed rfl rfl ?_
  refine Pw.takeP 0 (nb 38 1) rfl rfl rfl rfl (by kernel_rfl) np sf ?_
  refine Pw.takeP 1 (nb 38 3) rfl rfl rfl rfl (by kernel_rfl) np sf ?_
  refine Pw.takeP 2 (nb 38 7) rfl rfl rfl rfl (by kernel_rfl) np sf ?_
  refine Pw.takeP 3 (nb 38 15) rfl rfl rfl rfl (by kernel_rfl) np sf ?_
  refine Pw.re (d := 51) (v' := .bool false) rfl (congrArg Value.bool (decide_eq_false (fun c => c rfl))) ?_
  refine Pw.takeP 4 (nb 38 31) rfl rfl rfl rfl (by kernel_rfl) np sf ?_
  refine Pw.takeP 5 (nb 38 63) rfl rfl rfl rfl (by kernel_rfl) np sf ?_
  refine Pw.takeP 6 (nb 38 127) rfl rfl rfl rfl (by kernel_rfl) np sf ?_
  refine Pw.takeP 7 (nb 38 255) rfl rfl rfl rfl (by kernel_rfl) np sf ?_
  refine Pw.takeP 8 (nb 38 511) rfl rfl rfl rfl (by kernel_rfl) np sf ?_
  refine Pw.takeP 9 (nb 38 1023) rfl rfl rfl rfl (by kernel_rfl) np sf ?_
  refine Pw.takeP 10 (nb 38 2047) rfl rfl rfl rfl (by kernel_rfl) np sf ?_
  refine Pw.re (d := 58) (v' := .bool false) rfl (congrArg Value.bool (decide_eq_false (fun c => c rfl))) ?_
  refine Pw.takeP 11 (nb 38 4095) rfl rfl rfl rfl (by kernel_rfl) np sf ?_
  refine Pw.takeP 12 (nb 38 8191) rfl rfl rfl rfl (by kernel_rfl) np sf ?_
  refine Pw.takeP 13 (nb 38 16383) rfl rfl rfl rfl (by kernel_rfl) np sf ?_
  refine Pw.takeP 14 (nb 38 32767) rfl rfl rfl rfl (by kernel_rfl) np sf ?_
  refine Pw.takeP 15 (nb 38 65535) rfl rfl rfl rfl (by kernel_rfl) np sf ?_
  refine Pw.re (d := 63) (v' := .bool false) rfl (congrArg Value.bool (decide_eq_false (fun c => c rfl))) ?_
  refine Pw.takeP 16 (nb 38 131071) rfl rfl rfl rfl (by kernel_rfl) np sf ?_
  refine Pw.takeP 17 (nb 38 262143) rfl rfl rfl rfl (by kernel_rfl) np sf ?_
  refine Pw.takeP 18 (nb 38 524287) rfl rfl rfl rfl (by kernel_rfl) np sf ?_
  refine Pw.takeP 19 (nb 38 1048575) rfl rfl rfl rfl (by kernel_rfl) np sf ?_
  refine Pw.takeP 20 (nb 38 2097151) rfl rfl rfl rfl (by kernel_rfl) np sf ?_
  refine Pw.re (d := 68) (v' := .bool false) rfl (congrArg Value.bool (decide_eq_false (fun c => c rfl))) ?_
  refine Pw.takeF 21 (nb 38 4194303) rfl rfl inferInstance rfl rfl rfl (by kernel_rfl) np sf ?_
  refine Pw.takeF 24 (nb 38 20971519) rfl rfl inferInstance rfl rfl rfl (by kernel_rfl) np sf ?_
  refine Pw.one 22 (nb 38 25165823) rfl (by kernel_rfl) ?_
  -- call Op.call { callee := Callee.value (Operand.func 50), args := #[Operand.tmp 69], argTypes := #[73] }
  refine Pw.call (pTheirs_ct x) rfl rfl rfl (by kernel_rfl) rfl rfl (fun w h => trivial) ?_
  intro _ _
  refine Pw.held sf ?_
  refine Pw.one 23 (nb 38 33554431) rfl (by kernel_rfl) ?_
  -- call Op.call { callee := Callee.value (Operand.func 55), args := #[Operand.tmp 70], argTypes := #[78] }
  refine Pw.call (pFormed_ct x) rfl rfl rfl (by kernel_rfl) rfl rfl (fun w h => (hv w h)) ?_
  intro _ _
  refine Pw.held sf ?_
  refine Pw.one 25 (nb 38 67108863) rfl (by kernel_rfl) ?_
  -- call Op.call { callee := Callee.value (Operand.func 48), args := #[Operand.tmp 72], argTypes := #[73] }
  refine Pw.call (rFormed_ct x) rfl rfl rfl (by kernel_rfl) rfl rfl (fun w h => (hv w h)) ?_
  intro _ _
  refine Pw.held sf ?_
  refine Pw.takeP 26 (nb 38 134217727) rfl rfl rfl rfl (by kernel_rfl) np sf ?_
  refine Pw.takeP 27 (nb 38 268435455) rfl rfl rfl rfl (by kernel_rfl) np sf ?_
  refine Pw.takeP 28 (nb 38 536870911) rfl rfl rfl rfl (by kernel_rfl) np sf ?_
  refine Pw.re (d := 76) (v' := .bool false) rfl (by simp) ?_
  refine Pw.takeF 29 (nb 38 1073741823) rfl rfl inferInstance rfl rfl rfl (by kernel_rfl) np sf ?_
  refine Pw.takeP 31 (nb 38 3221225471) rfl rfl rfl rfl (by kernel_rfl) np sf ?_
  refine Pw.takeF 33 (nb 38 11811160063) rfl rfl inferInstance rfl rfl rfl (by kernel_rfl) np sf ?_
  refine Pw.takeP 34 (nb 38 28991029247) rfl rfl rfl rfl (by kernel_rfl) np sf ?_
  refine Pw.one 30 (nb 38 30064771071) rfl (by kernel_rfl) ?_
  -- call Op.call { callee := Callee.value (Operand.func 50), args := #[Operand.tmp 77], argTypes := #[73] }
  refine Pw.call (pTheirs_ct x) rfl rfl rfl (by kernel_rfl) rfl rfl (fun w h => trivial) ?_
  intro _ _
  refine Pw.held sf ?_
  refine Pw.one 32 (nb 38 34359738367) rfl (by kernel_rfl) ?_
  -- call Op.call { callee := Callee.value (Operand.func 56), args := #[Operand.tmp 78, Operand.tmp 79], argTypes := #[78, 3] }
  refine Pw.call (pPart_ct x id) rfl rfl rfl (by kernel_rfl) rfl rfl (fun w h => (hv w h)) ?_
  intro _ _
  refine Pw.held sf ?_
  refine Pw.one 35 (nb 38 68719476735) rfl (by kernel_rfl) ?_
  -- call Op.call { callee := Callee.value (Operand.func 51), args := #[Operand.tmp 81, Operand.tmp 82], argTypes := #[73, 3] }
  refine Pw.call (rPart_ct x id) rfl rfl rfl (by kernel_rfl) rfl rfl (fun w h => (hv w h)) ?_
  intro _ _
  refine Pw.held sf ?_
  refine Pw.takeP 36 (nb 38 137438953471) rfl rfl rfl rfl (by kernel_rfl) np sf ?_
  refine Pw.takeP 37 (nb 38 274877906943) rfl rfl rfl rfl (by kernel_rfl) np sf ?_
  refine Pw.done (by kernel_rfl) ?_
  refine Pw.re (d := 85) (v' := .bool false) rfl (congrArg Value.bool (decide_eq_false (fun c => c rfl))) ?_
  repeat (first | (with_reducible first | refine Pw.seq ?_ | refine Pw.region ?_ | refine Pw.nil ?_ | refine Pw.then_ ?_ | refine Pw.skip ?_ | refine Pw.block ?_ | refine Pw.exit ?_ | refine Pw.inX ?_ | refine Pw.inN ?_ | refine Pw.inR ?_ | refine Pw.thenX ?_ | refine Pw.thenR ?_ | refine Pw.ret ?_) | refine Pw.list (Pw.pure rfl rfl rfl ?_) | refine Pw.inY rfl ?_ | refine Pw.list (Pw.off rfl rfl ?_) | refine Pw.condT rfl ?_ | refine Pw.condF rfl ?_ | refine Pw.list (Pw.box rfl rfl rfl rfl (fun _ => ?_)) | refine Pw.list (Pw.alloc rfl rfl rfl rfl rfl (fun _ => ?_)) | refine Pw.list (Pw.build rfl rfl rfl rfl ?_) | refine Pw.list (Pw.ld rfl inferInstance rfl rfl rfl ?_) | refine Pw.list (Pw.sto rfl rfl inferInstance rfl rfl rfl rfl rfl inferInstance rfl ?_))
  refine Pw.facts (G' := [PGS P1 (A1, c1), PGS P2 (A2, c2)]) (fun w h => allCons (hv w h) (allCons (hv w h) allNil)) ?_
  refine Pw.loopJ (σ := Nat) (fun i => i ≤ ps.length) (fun i => ⟨[(7, .slice A1 ps.length c1), (9, .slice A2 ps.length c2), (87, .int .i64 ps.length), (88, .int .i64 i)], [], [PGS P1 (A1, c1), PGS P2 (A2, c2)]⟩) (fun i => ps.length - i) 0 (Nat.zero_le _) (Pw.enter ⟨rfl, rfl, rfl, rfl, trivial⟩ (fun w h => h)) ?_
  rintro i hi
  dsimp only at hi ⊢
  repeat (first | (with_reducible first | refine Pw.seq ?_ | refine Pw.region ?_ | refine Pw.nil ?_ | refine Pw.then_ ?_ | refine Pw.skip ?_ | refine Pw.block ?_ | refine Pw.exit ?_ | refine Pw.inX ?_ | refine Pw.inN ?_ | refine Pw.inR ?_ | refine Pw.thenX ?_ | refine Pw.thenR ?_ | refine Pw.ret ?_) | refine Pw.list (Pw.pure rfl rfl rfl ?_) | refine Pw.inY rfl ?_ | refine Pw.list (Pw.off rfl rfl ?_) | refine Pw.condT rfl ?_ | refine Pw.condF rfl ?_ | refine Pw.list (Pw.box rfl rfl rfl rfl (fun _ => ?_)) | refine Pw.list (Pw.alloc rfl rfl rfl rfl rfl (fun _ => ?_)) | refine Pw.list (Pw.build rfl rfl rfl rfl ?_) | refine Pw.list (Pw.ld rfl inferInstance rfl rfl rfl ?_) | refine Pw.list (Pw.sto rfl rfl inferInstance rfl rfl rfl rfl rfl inferInstance rfl ?_))
  refine Pw.condD rfl (fun c3 => ?_) (fun c3 => ?_)
  · obtain ⟨⟨p, y⟩, hp, _⟩ := get_at (show i < P1.length by omega)
    obtain ⟨⟨q, z⟩, hq, _⟩ := get_at (show i < P2.length by omega)
    have hpi : ps[i]? = some p := by rw [← hP1, List.getElem?_map, hp]; rfl
    have hqi : ps[i]? = some q := by rw [← hP2, List.getElem?_map, hq]; rfl
    obtain rfl : p = q := by rw [hpi] at hqi; exact Option.some.inj hqi
    refine Pw.use (p := A1.isSome = true) (fun w h => (fact0 h).has (i := (i : Int)) (by omega) (by omega)) (fun hA => ?_)
    refine Pw.use (p := A2.isSome = true) (fun w h => (fact1 h).has (i := (i : Int)) (by omega) (by omega)) (fun hB => ?_)
    obtain ⟨ad, rfl⟩ := Option.isSome_iff_exists.1 hA
    obtain ⟨bd, rfl⟩ := Option.isSome_iff_exists.1 hB
    repeat (first | (with_reducible first | refine Pw.seq ?_ | refine Pw.region ?_ | refine Pw.nil ?_ | refine Pw.then_ ?_ | refine Pw.skip ?_ | refine Pw.block ?_ | refine Pw.exit ?_ | refine Pw.inX ?_ | refine Pw.inN ?_ | refine Pw.inR ?_ | refine Pw.thenX ?_ | refine Pw.thenR ?_ | refine Pw.ret ?_) | refine Pw.list (Pw.pure rfl rfl rfl ?_) | refine Pw.inY rfl ?_ | refine Pw.list (Pw.off rfl rfl ?_) | refine Pw.condT rfl ?_ | refine Pw.condF rfl ?_ | refine Pw.list (Pw.box rfl rfl rfl rfl (fun _ => ?_)) | refine Pw.list (Pw.alloc rfl rfl rfl rfl rfl (fun _ => ?_)) | refine Pw.list (Pw.build rfl rfl rfl rfl ?_) | refine Pw.list (Pw.ld rfl inferInstance rfl rfl rfl ?_) | refine Pw.list (Pw.sto rfl rfl inferInstance rfl rfl rfl rfl rfl inferInstance rfl ?_))
    refine Pw.more (fun w h => (((fact0 h : PGS P1 (some ad, c1) w).at hp).2.1 : PS p y w)) ?_
    refine Pw.more (fun w h => (((fact2 h : PGS P2 (some bd, c2) w).at hq).2.1 : PS p z w)) ?_
    refine Pw.drawnG mixed rfl rfl ?_
    refine Pw.takeP 0 (nb 10 1) rfl rfl rfl rfl (by kernel_rfl) np sf ?_
    refine Pw.takeP 1 (nb 10 3) rfl rfl rfl rfl (by kernel_rfl) np sf ?_
    refine Pw.takeIx 2 (nb 10 7) rfl rfl rfl rfl rfl (by first | assumption | omega) (by first | assumption | omega) rfl rfl (by kernel_rfl) np sf ?_
    refine Pw.takeLC (Prod.mk p y) 3 (nb 10 15) rfl rfl inferInstance rfl (by first | assumption | (rw [Int.toNat_natCast]; assumption)) rfl rfl rfl rfl (by kernel_rfl) np sf ?_
    refine Pw.takeP 4 (nb 10 31) rfl rfl rfl rfl (by kernel_rfl) np sf ?_
    refine Pw.takeP 5 (nb 10 63) rfl rfl rfl rfl (by kernel_rfl) np sf ?_
    refine Pw.takeIx 6 (nb 10 127) rfl rfl rfl rfl rfl (by first | assumption | omega) (by first | assumption | omega) rfl rfl (by kernel_rfl) np sf ?_
    refine Pw.takeLC (Prod.mk p z) 7 (nb 10 255) rfl rfl inferInstance rfl (by first | assumption | (rw [Int.toNat_natCast]; assumption)) rfl rfl rfl rfl (by kernel_rfl) np sf ?_
    refine Pw.one 8 (nb 10 511) rfl (by kernel_rfl) ?_
    -- call Op.call { callee := Callee.value (Operand.func 57), args := #[Operand.tmp 94, Operand.tmp 98], argTypes := #[71, 71] }
    refine Pw.call (Parts_ct p y z) rfl rfl rfl (by kernel_rfl) rfl rfl (fun w h => ⟨(fact1 h : PS p y w), (fact0 h : PS p z w)⟩) ?_
    intro _ _
    refine Pw.held sf ?_
    refine Pw.takeP 9 (nb 10 1023) rfl rfl rfl rfl (by kernel_rfl) np sf ?_
    refine Pw.done (by kernel_rfl) ?_
    repeat (first | (with_reducible first | refine Pw.seq ?_ | refine Pw.region ?_ | refine Pw.nil ?_ | refine Pw.then_ ?_ | refine Pw.skip ?_ | refine Pw.block ?_ | refine Pw.exit ?_ | refine Pw.inX ?_ | refine Pw.inN ?_ | refine Pw.inR ?_ | refine Pw.thenX ?_ | refine Pw.thenR ?_ | refine Pw.ret ?_) | refine Pw.list (Pw.pure rfl rfl rfl ?_) | refine Pw.inY rfl ?_ | refine Pw.list (Pw.off rfl rfl ?_) | refine Pw.condT rfl ?_ | refine Pw.condF rfl ?_ | refine Pw.list (Pw.box rfl rfl rfl rfl (fun _ => ?_)) | refine Pw.list (Pw.alloc rfl rfl rfl rfl rfl (fun _ => ?_)) | refine Pw.list (Pw.build rfl rfl rfl rfl ?_) | refine Pw.list (Pw.ld rfl inferInstance rfl rfl rfl ?_) | refine Pw.list (Pw.sto rfl rfl inferInstance rfl rfl rfl rfl rfl inferInstance rfl ?_))
    refine Pw.re (d := 88) (v' := .int .i64 ((i + 1 : Nat) : Int)) rfl (congrArg (Value.int .i64) (i64s (n := 100000) (by omega) (by omega))) ?_
    exact Pw.again (i + 1) (by omega) (by show ps.length - (i + 1) < ps.length - i; omega) ⟨rfl, rfl, rfl, rfl, trivial⟩ rfl (fun w h => allCons (hv w h) (allCons (hv w h) allNil))
  · repeat (first | (with_reducible first | refine Pw.seq ?_ | refine Pw.region ?_ | refine Pw.nil ?_ | refine Pw.then_ ?_ | refine Pw.skip ?_ | refine Pw.block ?_ | refine Pw.exit ?_ | refine Pw.inX ?_ | refine Pw.inN ?_ | refine Pw.inR ?_ | refine Pw.thenX ?_ | refine Pw.thenR ?_ | refine Pw.ret ?_) | refine Pw.list (Pw.pure rfl rfl rfl ?_) | refine Pw.inY rfl ?_ | refine Pw.list (Pw.off rfl rfl ?_) | refine Pw.condT rfl ?_ | refine Pw.condF rfl ?_ | refine Pw.list (Pw.box rfl rfl rfl rfl (fun _ => ?_)) | refine Pw.list (Pw.alloc rfl rfl rfl rfl rfl (fun _ => ?_)) | refine Pw.list (Pw.build rfl rfl rfl rfl ?_) | refine Pw.list (Pw.ld rfl inferInstance rfl rfl rfl ?_) | refine Pw.list (Pw.sto rfl rfl inferInstance rfl rfl rfl rfl rfl inferInstance rfl ?_))
    exact Pw.ret_ (x := ()) (.tmp rfl .nil) rfl trivial (fun w h => by trivial)
end Go.Proofs.Wk
