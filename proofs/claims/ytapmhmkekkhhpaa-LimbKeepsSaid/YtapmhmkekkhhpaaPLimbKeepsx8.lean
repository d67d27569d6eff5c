-- Written by pr.py (wip/tools), a program of this session, over the kit's printer.
import Derived.Test.YtapmhmkekkhhpaaPLimbKeepsx0
import Derived.Test.YtapmhmkekkhhpaaPLimbKeepsx1
import Derived.Test.YtapmhmkekkhhpaaPLimbKeepsx4
import Derived.Test.YtapmhmkekkhhpaaPLimbKeepsx5
import Derived.Test.YtapmhmkekkhhpaaPLimbKeepsx6
import Derived.Test.YtapmhmkekkhhpaaPLimbKeepsx7
namespace Go.Proofs.Ytapmhmkekkhhpaa.PLimbKeeps
open Go.RowKit Go.Proofs.YtapmhmkekkhhpaaW.PrintWords Go.Proofs.YtapmhmkekkhhpaaW.PrintLast Go.Proofs.YtapmhmkekkhhpaaW.PrintMore
attribute [local go_sem] max2_int min2_int max_two min_two max_three min_three max_four min_four   -- for this text's walks alone
set_option linter.unusedVariables false
set_option linter.unusedSimpArgs false

/-! ### limb_long: function 67 -/
def limb_guess.w (k : Nat) (u v : List Int) (i : Int) : Option Int := if 0 ≤ i ∧ i.toNat + (v.length + 1) ≤ u.length then limb_guess.f k ((u.drop i.toNat).take (v.length + 1)) v else none
def limb_take.w (k : Nat) (u v : List Int) (i q : Int) : Option (Bool × List Int) := if 0 ≤ i ∧ i.toNat + (v.length + 1) ≤ u.length then (limb_take.f k ((u.drop i.toNat).take (v.length + 1)) v q).bind (fun b => some (b.1, u.take i.toNat ++ b.2 ++ u.drop (i.toNat + (v.length + 1)))) else none
def limb_give.w (k : Nat) (u v : List Int) (i : Int) : Option (List Int) := if 0 ≤ i ∧ i.toNat + (v.length + 1) ≤ u.length then (limb_give.f k ((u.drop i.toNat).take (v.length + 1)) v).bind (fun b => some (u.take i.toNat ++ b ++ u.drop (i.toNat + (v.length + 1)))) else none
theorem limb_guess.wmono (u v : List Int) (i : Int) (k : Nat) : LeO (limb_guess.w k u v i) (limb_guess.w (k + 1) u v i) := by
  unfold limb_guess.w; exact LeO.ite (limb_guess.mono _ _ _) (LeO.none _)
theorem limb_take.wmono (u v : List Int) (i q : Int) (k : Nat) : LeO (limb_take.w k u v i q) (limb_take.w (k + 1) u v i q) := by
  unfold limb_take.w; exact LeO.ite (LeO.bind (limb_take.mono _ _ _ _) (fun _ => LeO.refl _)) (LeO.none _)
theorem limb_give.wmono (u v : List Int) (i : Int) (k : Nat) : LeO (limb_give.w k u v i) (limb_give.w (k + 1) u v i) := by
  unfold limb_give.w; exact LeO.ite (LeO.bind (limb_give.mono _ _ _) (fun _ => LeO.refl _)) (LeO.none _)
theorem limb_guess.w_some {k : Nat} {u v : List Int} {i r : Int} (h : limb_guess.w k u v i = some r) : 0 ≤ i ∧ i.toNat + (v.length + 1) ≤ u.length ∧ limb_guess.f k ((u.drop i.toNat).take (v.length + 1)) v = some r := by
  unfold limb_guess.w at h
  by_cases hc : 0 ≤ i ∧ i.toNat + (v.length + 1) ≤ u.length
  · rw [if_pos hc] at h; exact ⟨hc.1, hc.2, h⟩
  · rw [if_neg hc] at h; cases h
theorem limb_take.w_some {k : Nat} {u v : List Int} {i q : Int} {r1 : Bool} {r2 : List Int} (h : limb_take.w k u v i q = some (r1, r2)) :
    ∃ m, limb_take.f k ((u.drop i.toNat).take (v.length + 1)) v q = some (r1, m) ∧ r2 = u.take i.toNat ++ m ++ u.drop (i.toNat + (v.length + 1)) := by
  unfold limb_take.w at h
  by_cases hc : 0 ≤ i ∧ i.toNat + (v.length + 1) ≤ u.length
  · rw [if_pos hc] at h
    obtain ⟨⟨b1, b2⟩, hb, h2⟩ := Option.bind_eq_some_iff.mp h
    simp only [Option.some.injEq, Prod.mk.injEq] at h2
    obtain ⟨rfl, rfl⟩ := h2
    exact ⟨b2, hb, rfl⟩
  · rw [if_neg hc] at h; cases h
theorem limb_give.w_some {k : Nat} {u v : List Int} {i : Int} {r : List Int} (h : limb_give.w k u v i = some r) :
    ∃ m, limb_give.f k ((u.drop i.toNat).take (v.length + 1)) v = some m ∧ r = u.take i.toNat ++ m ++ u.drop (i.toNat + (v.length + 1)) := by
  unfold limb_give.w at h
  by_cases hc : 0 ≤ i ∧ i.toNat + (v.length + 1) ≤ u.length
  · rw [if_pos hc] at h
    obtain ⟨b2, hb, h2⟩ := Option.bind_eq_some_iff.mp h
    simp only [Option.some.injEq] at h2
    exact ⟨b2, hb, h2.symm⟩
  · rw [if_neg hc] at h; cases h
theorem limb_take.len_l : ∀ (k : Nat) (x0 x1 : List Int) (a b c d e : Int) (r : Bool × List Int), limb_take.l0 k x0 x1 a b c d e = some r → r.2.length = x0.length := by
  intro k
  induction k with
  | zero => intro x0 x1 a b c d e r h; simp [limb_take.l0] at h
  | succ k ih =>
    intro x0 x1 a b c d e r h
    simp only [limb_take.l0, Option.bind_some] at h
    repeat' split at h
    all_goals first
      | (cases h; done)
      | (have h2 := ih _ _ _ _ _ _ _ _ h; rw [List.length_set] at h2; exact h2)
      | (cases h; rfl)
theorem limb_take.len {k : Nat} {x0 x1 : List Int} {a : Int} {b : Bool} {r : List Int} (h : limb_take.f k x0 x1 a = some (b, r)) : r.length = x0.length := limb_take.len_l k x0 x1 a 0 0 _ 0 _ h
mutual
def limb_long.l0 : Nat → List Int → List Int → Int → Option (List Int × List Int)
  | 0, _, _, _ => none
  | k + 1, x0, x1, x6 => if 0 ≤ (wrap64 ((x1.length : Int) - 1)) then (if (wrap64 ((x1.length : Int) - 1)) < (x1.length : Int) then (if 0 ≤ x6 then (if ((shl .u32 (rd x1 (wrap64 ((x1.length : Int) - 1))) x6) / 2147483648) = 0 then (limb_long.l0 k x0 x1 (wrap64 (x6 + 1))) else ((limb_shift.f k x1 x6).bind fun t237 => (if 0 ≤ (x1.length : Int) then (if (x1.length : Int) ≤ (t237.length : Int) then ((some (t237.take ((x1.length : Int) : Int).toNat : List Int)).bind fun y240 => ((limb_shift.f k x0 x6).bind fun t244 => (if 0 ≤ (wrap64 ((t244.length : Int) - (y240.length : Int))) then (if (wrap64 ((t244.length : Int) - (y240.length : Int)) : Int).toNat ≤ 70368744177664 then ((some (List.replicate (wrap64 ((t244.length : Int) - (y240.length : Int)) : Int).toNat 0 : List Int)).bind fun y247 => (limb_long.l1 k x6 y240 t244 y247 (wrap64 ((y247.length : Int) - 1)))) else (none)) else (none)))) else (none)) else (none)))) else (none)) else (none)) else (none)
def limb_long.l1 : Nat → Int → List Int → List Int → List Int → Int → Option (List Int × List Int)
  | 0, _, _, _, _, _ => none
  | k + 1, x6, x7, x8, x9, x10 => if x10 ≥ 0 then ((limb_guess.w k x8 x7 x10).bind fun t260 => ((limb_take.w k x8 x7 x10 t260).bind fun bt261 => (if bt261.1 = true then ((limb_give.w k bt261.2 x7 x10).bind fun t263 => (if 0 ≤ x10 then (if x10 < (x9.length : Int) then (limb_long.l1 k x6 x7 t263 (x9.set (x10 : Int).toNat ((IntKind.u64.wrap (t260 - 1)) % 4294967296)) (wrap64 (x10 - 1))) else (none)) else (none))) else (if 0 ≤ x10 then (if x10 < (x9.length : Int) then (limb_long.l1 k x6 x7 bt261.2 (x9.set (x10 : Int).toNat ((t260) % 4294967296)) (wrap64 (x10 - 1))) else (none)) else (none))))) else ((limb_trim.f k x9).bind fun t250 => (if 0 ≤ (x7.length : Int) then (if (x7.length : Int) ≤ (x8.length : Int) then ((limb_unshift.f k (x8.take ((x7.length : Int) : Int).toNat) x6).bind fun t257 => (some (t250, t257))) else (none)) else (none)))
end
def limb_long.f (k : Nat) (l0 : List Int) (l1 : List Int) : Option (List Int × List Int) := limb_long.l0 k l0 l1 0
theorem limb_long.mono_l : ∀ k, (∀ y0 y1 y2, LeO (limb_long.l0 k y0 y1 y2) (limb_long.l0 (k + 1) y0 y1 y2)) ∧ (∀ y0 y1 y2 y3 y4, LeO (limb_long.l1 k y0 y1 y2 y3 y4) (limb_long.l1 (k + 1) y0 y1 y2 y3 y4))
  | 0 => ⟨fun _ _ _ r h => by simp [limb_long.l0] at h, fun _ _ _ _ _ r h => by simp [limb_long.l1] at h⟩
  | k + 1 => by
    obtain ⟨ih0, ih1⟩ := limb_long.mono_l k
    refine ⟨?_, ?_⟩
    · intro y0 y1 y2
      unfold limb_long.l0
      repeat' first
      | (with_reducible exact ih0 _ _ _)
      | (with_reducible exact ih1 _ _ _ _ _)
      | (with_reducible exact limb_give.wmono _ _ _ _)
      | (with_reducible exact limb_guess.wmono _ _ _ _)
      | (with_reducible exact limb_shift.mono _ _ _)
      | (with_reducible exact limb_take.wmono _ _ _ _ _)
      | (with_reducible exact limb_trim.mono _ _)
      | (with_reducible exact limb_unshift.mono _ _ _)
      | (with_reducible exact LeO.refl _)
      | (with_reducible exact LeO.none _)
      | (with_reducible refine LeO.ite ?_ ?_)
      | (with_reducible refine LeO.bind ?_ (fun _ => ?_))
      | exact ih0 _ _ _
      | exact ih1 _ _ _ _ _
      | exact limb_give.wmono _ _ _ _
      | exact limb_guess.wmono _ _ _ _
      | exact limb_shift.mono _ _ _
      | exact limb_take.wmono _ _ _ _ _
      | exact limb_trim.mono _ _
      | exact limb_unshift.mono _ _ _
      | exact LeO.none _
      | refine LeO.ite ?_ ?_
      | refine LeO.bind ?_ (fun _ => ?_)
    · intro y0 y1 y2 y3 y4
      unfold limb_long.l1
      repeat' first
      | (with_reducible exact ih0 _ _ _)
      | (with_reducible exact ih1 _ _ _ _ _)
      | (with_reducible exact limb_give.wmono _ _ _ _)
      | (with_reducible exact limb_guess.wmono _ _ _ _)
      | (with_reducible exact limb_shift.mono _ _ _)
      | (with_reducible exact limb_take.wmono _ _ _ _ _)
      | (with_reducible exact limb_trim.mono _ _)
      | (with_reducible exact limb_unshift.mono _ _ _)
      | (with_reducible exact LeO.refl _)
      | (with_reducible exact LeO.none _)
      | (with_reducible refine LeO.ite ?_ ?_)
      | (with_reducible refine LeO.bind ?_ (fun _ => ?_))
      | exact ih0 _ _ _
      | exact ih1 _ _ _ _ _
      | exact limb_give.wmono _ _ _ _
      | exact limb_guess.wmono _ _ _ _
      | exact limb_shift.mono _ _ _
      | exact limb_take.wmono _ _ _ _ _
      | exact limb_trim.mono _ _
      | exact limb_unshift.mono _ _ _
      | exact LeO.none _
      | refine LeO.ite ?_ ?_
      | refine LeO.bind ?_ (fun _ => ?_)
theorem limb_long.mono : ∀ a0 a1 k, LeO (limb_long.f k a0 a1) (limb_long.f (k + 1) a0 a1) := by
  intro a0 a1 k
  obtain ⟨ih0, ih1⟩ := limb_long.mono_l k
  unfold limb_long.f
  repeat' first
      | (with_reducible exact ih0 _ _ _)
      | (with_reducible exact ih1 _ _ _ _ _)
      | (with_reducible exact limb_give.wmono _ _ _ _)
      | (with_reducible exact limb_guess.wmono _ _ _ _)
      | (with_reducible exact limb_shift.mono _ _ _)
      | (with_reducible exact limb_take.wmono _ _ _ _ _)
      | (with_reducible exact limb_trim.mono _ _)
      | (with_reducible exact limb_unshift.mono _ _ _)
      | (with_reducible exact LeO.refl _)
      | (with_reducible exact LeO.none _)
      | (with_reducible refine LeO.ite ?_ ?_)
      | (with_reducible refine LeO.bind ?_ (fun _ => ?_))
      | exact ih0 _ _ _
      | exact ih1 _ _ _ _ _
      | exact limb_give.wmono _ _ _ _
      | exact limb_guess.wmono _ _ _ _
      | exact limb_shift.mono _ _ _
      | exact limb_take.wmono _ _ _ _ _
      | exact limb_trim.mono _ _
      | exact limb_unshift.mono _ _ _
      | exact LeO.none _
      | refine LeO.ite ?_ ?_
      | refine LeO.bind ?_ (fun _ => ?_)
def limb_long.T16 : Bool × List (List Nat × List Nat) := (true, [([], []), ([0], [0]), ([], []), ([], []), ([3], [3]), ([2, 4], [2, 4]), ([], []), ([5, 6, 1], [5, 6]), ([1, 7, 0, 1], [1]), ([7, 8, 0, 1, 2, 3, 4, 5, 6, 7, 8], [7])])
def limb_long.B16 : List Nat := [0, 1, 0, 0, 8, 28, 0, 127, 255, 511]
theorem limb_long.tab16 : rtab .any (opsOf Try.f67 16) = limb_long.T16 := by kernel_rfl
theorem limb_long.bits16 : waitsOk limb_long.T16.2 limb_long.B16 = true := by kernel_rfl
set_option maxHeartbeats 8000000 in
set_option maxRecDepth 100000 in
theorem limb_long.calls (k : Nat) (A0 : Option Addr) (c0 : Nat) (l0 : List Int) (A1 : Option Addr) (c1 : Nat) (l1 : List Int) (r1 : List Int) (r2 : List Int) (w : World) (hr0 : Kd.C (Kd.int .u32) w A0 l0.length l0) (hc0 : l0.length ≤ c0) (hr1 : Kd.C (Kd.int .u32) w A1 l1.length l1) (hc1 : l1.length ≤ c1) (h : limb_long.f k l0 l1 = some (r1, r2)) :
    Calls Try.prog 67 #[.slice A0 l0.length c0, .slice A1 l1.length c1] w fun e w' => ∃ v0_ v1_ : Value, e = .returned (.tuple #[v0_, v1_]) ∧ Kd.R (Kd.int .u32) 59 w' w.heap.size (fun k_ => some k_ ≠ (v1_ : Value).ownBlock) v0_ r1 ∧ Kd.R (Kd.int .u32) 59 w' w.heap.size (fun k_ => some k_ ≠ (v0_ : Value).ownBlock) v1_ r2 ∧ Below w.heap.size w w' := by
  have HR0 := Aside0.mk hr0
  have HC0 := Aside0.mk hc0
  clear hr0 hc0
  have HR1 := Aside0.mk hr1
  have HC1 := Aside0.mk hc1
  clear hr1 hc1
  have HB := Aside0.mk (Below.refl w.heap.size w)
  have H : (limb_long.l0 k l0 l1 0) = some (r1, r2) := h
  clear h
  have H' := Aside0.mk H
  clear H
  go_enter Try.func67, Try.ntmps67
  go_wp2
  go_loopg [6] k (fun kq v6 w' => ∃ (x6_1 : Int), v6 = .int .i64 x6_1 ∧ Aside0 (limb_long.l0 kq l0 l1 x6_1 = some (r1, r2)) ∧ Aside0 (kq ≤ k) ∧ Aside0 (Below w.heap.size w w'))
  case atStart => exact ⟨(0), (by first | rfl | (simp; done) | (simp [*]; done)), H', ⟨Nat.le_refl _⟩, ⟨by repeat (first | (with_reducible first | exact HB.out | apply below_alloc | apply pw_below_drewN | apply below_drew1) | exact HB.out)⟩⟩
  case round =>
    clear H'
    try clear c1
    try clear p2
    obtain ⟨x6_1, rfl, HA, HK1, HB⟩ := hrel
    cases gk with
    | zero => exact absurd HA.out (by simp [limb_long.l0])
    | succ k1 =>
      have H := HA.out
      clear HA
      simp only [limb_long.l0] at H
      obtain ⟨ji3, hji3⟩ : ∃ j_ : Int, (wrap64 ((l1.length : Int) - 1)) = j_ := ⟨_, rfl⟩
      replace H : (if 0 ≤ (ji3) then (if (ji3) < (l1.length : Int) then (if 0 ≤ x6_1 then (if ((shl .u32 (rd l1 (ji3)) x6_1) / 2147483648) = 0 then (limb_long.l0 k1 l0 l1 (wrap64 (x6_1 + 1))) else ((limb_shift.f k1 l1 x6_1).bind fun t237 => (if 0 ≤ (l1.length : Int) then (if (l1.length : Int) ≤ (t237.length : Int) then ((some (t237.take ((l1.length : Int) : Int).toNat : List Int)).bind fun y240 => ((limb_shift.f k1 l0 x6_1).bind fun t244 => (if 0 ≤ (wrap64 ((t244.length : Int) - (y240.length : Int))) then (if (wrap64 ((t244.length : Int) - (y240.length : Int)) : Int).toNat ≤ 70368744177664 then ((some (List.replicate (wrap64 ((t244.length : Int) - (y240.length : Int)) : Int).toNat 0 : List Int)).bind fun y247 => (limb_long.l1 k1 x6_1 y240 t244 y247 (wrap64 ((y247.length : Int) - 1)))) else (none)) else (none)))) else (none)) else (none)))) else (none)) else (none)) else (none)) = some (r1, r2) := by first | (rw [hji3] at H; exact H) | (simp only [hji3] at H ⊢; exact H)
      have hji3w : (IntKind.i64.wrap ((l1.length : Int) - 1)) = ji3 := (i64_w _).trans hji3
      by_cases c4 : 0 ≤ (ji3)
      · rw [if_pos c4] at H
        have c4b0 : decide (0 ≤ (ji3)) = true := decide_eq_true c4
        clear c4
        by_cases c5 : (ji3) < (l1.length : Int)
        · rw [if_pos c5] at H
          have c5b0 : decide ((ji3) < (l1.length : Int)) = true := decide_eq_true c5
          clear c5
          by_cases c6 : 0 ≤ x6_1
          · rw [if_pos c6] at H
            have c6b0 := eq_true c6
            have c6b1 : decide (0 ≤ x6_1) = true := decide_eq_true c6
            clear c6
            obtain ⟨ji7, hji7⟩ : ∃ j_ : Int, (shl .u32 (rd l1 (ji3)) x6_1) = j_ := ⟨_, rfl⟩
            replace H : (if ((ji7) / 2147483648) = 0 then (limb_long.l0 k1 l0 l1 (wrap64 (x6_1 + 1))) else ((limb_shift.f k1 l1 x6_1).bind fun t237 => (if 0 ≤ (l1.length : Int) then (if (l1.length : Int) ≤ (t237.length : Int) then ((some (t237.take ((l1.length : Int) : Int).toNat : List Int)).bind fun y240 => ((limb_shift.f k1 l0 x6_1).bind fun t244 => (if 0 ≤ (wrap64 ((t244.length : Int) - (y240.length : Int))) then (if (wrap64 ((t244.length : Int) - (y240.length : Int)) : Int).toNat ≤ 70368744177664 then ((some (List.replicate (wrap64 ((t244.length : Int) - (y240.length : Int)) : Int).toNat 0 : List Int)).bind fun y247 => (limb_long.l1 k1 x6_1 y240 t244 y247 (wrap64 ((y247.length : Int) - 1)))) else (none)) else (none)))) else (none)) else (none)))) = some (r1, r2) := by first | (rw [hji7] at H; exact H) | (simp only [hji7] at H ⊢; exact H)
            have hji7_ : (IntKind.u32.wrap ((rd l1 (ji3)) * 2 ^ min x6_1.toNat 32)) = ji7 := hji7
            have hji7z : x6_1 ≤ 32 → (IntKind.u32.wrap ((rd l1 (ji3)) * 2 ^ x6_1.toNat)) = ji7 := shl_small hji7
            by_cases c8 : ((ji7) / 2147483648) = 0
            · rw [if_pos c8] at H
              have c8b0 : (((ji7) / 2147483648) == 0) = true := beq_iff_eq.mpr c8
              have c8b1 : (((ji7) / 2147483648) != 0) = false := bne_eq_false_iff_eq.mpr c8
              clear c8
              have H' := Aside0.mk H
              clear H
              have p236 : 0 ≤ ((ji3) : Int) := of_decide_eq_true (by first | (with_reducible assumption) | assumption)
              have q236 : (ji3) < (l1.length : Int) := of_decide_eq_true (by first | (with_reducible assumption) | assumption)
              obtain ⟨ad236, e236, hx236_0⟩ := Kd.at_int HR1.out (ji3) p236 q236
              cases e236
              replace hx236_0 := (HB.out.cell (World.block_lt_of_cell? w _ hx236_0)).trans hx236_0
              replace p236 := eq_true p236
              replace q236 := eq_true q236
              go_wp2
              go_roundg k1
              case measure => have := HK1.out; omega
              case rel => exact ⟨(wrap64 (x6_1 + 1)), (by first | rfl | (simp; done) | (simp [*]; done)), H', ⟨by have := HK1.out; omega⟩, ⟨by repeat (first | (with_reducible first | exact HB.out | apply below_alloc | apply pw_below_drewN | apply below_drew1) | exact HB.out)⟩⟩
            · rw [if_neg c8] at H
              have c8b0 : (((ji7) / 2147483648) == 0) = false := beq_eq_false_iff_ne.mpr c8
              have c8b1 : (((ji7) / 2147483648) != 0) = true := bne_iff_ne.mpr c8
              replace H := Option.bind_eq_some_iff.mp H
              obtain ⟨t237, A90, H⟩ := H
              replace H : (if 0 ≤ (l1.length : Int) then (if (l1.length : Int) ≤ (t237.length : Int) then ((some (t237.take ((l1.length : Int) : Int).toNat : List Int)).bind fun y240 => ((limb_shift.f k1 l0 x6_1).bind fun t244 => (if 0 ≤ (wrap64 ((t244.length : Int) - (y240.length : Int))) then (if (wrap64 ((t244.length : Int) - (y240.length : Int)) : Int).toNat ≤ 70368744177664 then ((some (List.replicate (wrap64 ((t244.length : Int) - (y240.length : Int)) : Int).toNat 0 : List Int)).bind fun y247 => (limb_long.l1 k1 x6_1 y240 t244 y247 (wrap64 ((y247.length : Int) - 1)))) else (none)) else (none)))) else (none)) else (none)) = some (r1, r2) := H
              have A9 := Aside0.mk A90
              clear A90
              by_cases c10 : 0 ≤ (l1.length : Int)
              · rw [if_pos c10] at H
                have c10b0 := eq_true c10
                have c10b1 : decide (0 ≤ (l1.length : Int)) = true := decide_eq_true c10
                clear c10
                by_cases c11 : (l1.length : Int) ≤ (t237.length : Int)
                · rw [if_pos c11] at H
                  have c11b0 := eq_true c11
                  have c11b1 : decide ((l1.length : Int) ≤ (t237.length : Int)) = true := decide_eq_true c11
                  clear c11
                  obtain ⟨y240, hy240⟩ : ∃ y_ : List Int, y_ = (t237.take ((l1.length : Int) : Int).toNat) := ⟨_, rfl⟩
                  replace H : ((limb_shift.f k1 l0 x6_1).bind fun t244 => (if 0 ≤ (wrap64 ((t244.length : Int) - (y240.length : Int))) then (if (wrap64 ((t244.length : Int) - (y240.length : Int)) : Int).toNat ≤ 70368744177664 then ((some (List.replicate (wrap64 ((t244.length : Int) - (y240.length : Int)) : Int).toNat 0 : List Int)).bind fun y247 => (limb_long.l1 k1 x6_1 y240 t244 y247 (wrap64 ((y247.length : Int) - 1)))) else (none)) else (none))) = some (r1, r2) := by first | (rw [hy240]; with_reducible exact H) | (have H2_ := (Option.bind_some _ _).symm.trans H; rw [hy240]; with_reducible exact H2_) | (have H2_ := (Option.bind_some _ _).symm.trans H; with_reducible exact H2_) | with_reducible exact H | (rw [hy240]; exact H) | exact H
                  have Ny240 := Aside0.mk hy240
                  clear hy240
                  replace H := Option.bind_eq_some_iff.mp H
                  obtain ⟨t244, A120, H⟩ := H
                  replace H : (if 0 ≤ (wrap64 ((t244.length : Int) - (y240.length : Int))) then (if (wrap64 ((t244.length : Int) - (y240.length : Int)) : Int).toNat ≤ 70368744177664 then ((some (List.replicate (wrap64 ((t244.length : Int) - (y240.length : Int)) : Int).toNat 0 : List Int)).bind fun y247 => (limb_long.l1 k1 x6_1 y240 t244 y247 (wrap64 ((y247.length : Int) - 1)))) else (none)) else (none)) = some (r1, r2) := H
                  have A12 := Aside0.mk A120
                  clear A120
                  obtain ⟨ji13, hji13⟩ : ∃ j_ : Int, (wrap64 ((t244.length : Int) - (y240.length : Int))) = j_ := ⟨_, rfl⟩
                  replace H : (if 0 ≤ (ji13) then (if (ji13 : Int).toNat ≤ 70368744177664 then ((some (List.replicate (ji13 : Int).toNat 0 : List Int)).bind fun y247 => (limb_long.l1 k1 x6_1 y240 t244 y247 (wrap64 ((y247.length : Int) - 1)))) else (none)) else (none)) = some (r1, r2) := by first | (rw [hji13] at H; exact H) | (simp only [hji13] at H ⊢; exact H)
                  (try rw [hji13] at A9)
                  (try rw [hji13] at A12)
                  have hji13w : (IntKind.i64.wrap ((t244.length : Int) - (y240.length : Int))) = ji13 := (i64_w _).trans hji13
                  by_cases c14 : 0 ≤ (ji13)
                  · rw [if_pos c14] at H
                    have c14b0 := eq_true c14
                    have c14b1 : decide (0 ≤ (ji13)) = true := decide_eq_true c14
                    clear c14
                    by_cases c15 : (ji13 : Int).toNat ≤ 70368744177664
                    · rw [if_pos c15] at H
                      have c15b0 := eq_true c15
                      have c15b1 : decide ((ji13 : Int).toNat ≤ 70368744177664) = true := decide_eq_true c15
                      clear c15
                      obtain ⟨y247, hy247⟩ : ∃ y_ : List Int, y_ = (List.replicate (ji13 : Int).toNat 0) := ⟨_, rfl⟩
                      replace H : (limb_long.l1 k1 x6_1 y240 t244 y247 (wrap64 ((y247.length : Int) - 1))) = some (r1, r2) := by first | (rw [hy247]; with_reducible exact H) | (have H2_ := (Option.bind_some _ _).symm.trans H; rw [hy247]; with_reducible exact H2_) | (have H2_ := (Option.bind_some _ _).symm.trans H; with_reducible exact H2_) | with_reducible exact H | (rw [hy247]; exact H) | exact H
                      have Ny247 := Aside0.mk hy247
                      clear hy247
                      have H' := Aside0.mk H
                      clear H
                      have p236 : 0 ≤ ((ji3) : Int) := of_decide_eq_true (by first | (with_reducible assumption) | assumption)
                      have q236 : (ji3) < (l1.length : Int) := of_decide_eq_true (by first | (with_reducible assumption) | assumption)
                      obtain ⟨ad236, e236, hx236_0⟩ := Kd.at_int HR1.out (ji3) p236 q236
                      cases e236
                      replace hx236_0 := (HB.out.cell (World.block_lt_of_cell? w _ hx236_0)).trans hx236_0
                      replace p236 := eq_true p236
                      replace q236 := eq_true q236
                      go_wp2_with (first | ((with_reducible refine gate_callee (f := 72) rfl ?_); refine goesL_ (some 27) rfl rfl Try.func72 (by kernel_rfl) rfl #[.slice (some ad236) l1.length c1, .int .i64 x6_1] rfl (by (try simp only [List.map_toArray, List.map_cons, List.map_nil]); first | done | rfl | (simp only [List.length_drop, List.length_take]; rfl)) ?_; (with_reducible refine (limb_shift.calls k1 _ _ l1 x6_1 t237 _ ?side1 ?side2 A9.out).mono ?_); (case side1 => repeat (first | exact (Kd.C_below HR1.out HB.out) | (with_reducible refine Kd.C_alloc ?_ _) | (with_reducible refine Kd.C_drewN ?_ _) | (with_reducible refine Kd.C_drew ?_))); (case side2 => exact HC1.out); rintro e w16 ⟨v238, rfl, ho0, hb⟩; refine ⟨_, rfl, ?_⟩; have n0_ := Aside0.mk (Kd.R_lower ho0 (below_size (by repeat (first | (with_reducible first | exact HB.out | apply below_alloc | apply pw_below_drewN | apply below_drew1) | exact HB.out)))); have n1_ := Aside0.mk (below_step (by repeat (first | (with_reducible first | exact HB.out | apply below_alloc | apply pw_below_drewN | apply below_drew1) | exact HB.out)) hb); clear HB; have HO239 := n0_; have HB := n1_; clear n0_ n1_; (try clear hb); (try clear hb2); (try clear hk); (try clear hi); (try clear ho0); obtain ⟨Ao18, co18, eo18⟩ := Kd.R_slice HO239.out; subst eo18; have q17 : ((l1.length : Int) : Int) ≤ ((t237.length : Int) : Int) := of_decide_eq_true (by first | (with_reducible assumption) | assumption); obtain ⟨i017, hi017, _, hsz17, _⟩ := info_parts info59; have hroom17 : t237.length ≤ co18 := (Kd.R_reads' HO239.out).2.1; have hC17 : Kd.C (Kd.int .u32) _ Ao18 t237.length t237 := (Kd.R_reads' HO239.out).2.2; have hcut17 := cut_to (P := Try.prog) 38 59 .i64 Try.underlying38 hi017 Ao18 t237.length co18 (l1.length : Int) (of_decide_eq_true (by first | (with_reducible assumption) | assumption)) q17 hroom17; have hr17 := Kd.C_take (m := ((l1.length : Int) : Int).toNat) hC17 (by omega); have hy17 : y240.length = ((l1.length : Int) : Int).toNat := (by rw [Ny240.out, List.length_take]; omega); rw [← Ny240.out] at hr17; rw [← hy17] at hcut17; have HR243 := Aside0.mk hr17; have HC243 := Aside0.mk (show y240.length ≤ co18 from by omega); clear hr17 hC17 hroom17 hi017 hsz17; have KY17 := Aside0.mk hy17; clear hy17; have KL17 := Aside0.mk (show ((l1.length : Int) : Int).toNat ≤ t237.length from by omega); replace q17 := eq_true q17) | ((with_reducible refine gate_callee (f := 72) rfl ?_); refine goesL_ (some 33) rfl rfl Try.func72 (by kernel_rfl) rfl #[.slice A0 l0.length c0, .int .i64 x6_1] rfl (by (try simp only [List.map_toArray, List.map_cons, List.map_nil]); first | done | rfl | (simp only [List.length_drop, List.length_take]; rfl)) ?_; (with_reducible refine (limb_shift.calls k1 _ _ l0 x6_1 t244 _ ?side1 ?side2 A12.out).mono ?_); (case side1 => repeat (first | exact (Kd.C_below HR0.out HB.out) | (with_reducible refine Kd.C_alloc ?_ _) | (with_reducible refine Kd.C_drewN ?_ _) | (with_reducible refine Kd.C_drew ?_))); (case side2 => exact HC0.out); rintro e w19 ⟨v245, rfl, ho0, hb⟩; refine ⟨_, rfl, ?_⟩; have n0_ := Aside0.mk (Kd.R_elder' (by (with_reducible repeat (first | apply Kd.R_alloc | apply Kd.R_drewN | apply Kd.R_drew)); exact HO239.out) (Kd.R_base ho0) hb); have n1_ := Aside0.mk (Kd.R_lower (Kd.R_new' ho0 (Kd.R_lt (by (with_reducible repeat (first | apply Kd.R_alloc | apply Kd.R_drewN | apply Kd.R_drew)); exact HO239.out))) (below_size (by repeat (first | (with_reducible first | exact HB.out | apply below_alloc | apply pw_below_drewN | apply below_drew1) | exact HB.out)))); have n2_ := Aside0.mk (Kd.C_below (by repeat (first | (with_reducible exact HR243.out) | (with_reducible refine Kd.C_alloc ?_ _) | (with_reducible refine Kd.C_drewN ?_ _) | (with_reducible refine Kd.C_drew ?_) | exact HR243.out)) hb); have n3_ := Aside0.mk (below_step (by repeat (first | (with_reducible first | exact HB.out | apply below_alloc | apply pw_below_drewN | apply below_drew1) | exact HB.out)) hb); clear HO239; clear HR243; clear HB; have HO239 := n0_; have HO246 := n1_; have HR243 := n2_; have HB := n3_; clear n0_ n1_ n2_ n3_; (try clear hb); (try clear hb2); (try clear hk); (try clear hi); (try clear ho0); obtain ⟨Ao20, co20, eo20⟩ := Kd.R_slice HO246.out; subst eo20) | ((with_reducible refine gate_dst (N := 39) rfl ?_); refine Kd.R_make (Kd.int .u32) _ 59 rfl (N := 39) rfl 38 _ _ rfl ji13 rfl rfl Try.underlying38 (.int .u32 0) 4 info59 rfl (by decide) (by omega) 0 (ok := fun _ => True) (okp := fun _ => True) rfl (fun _ hk => hk) trivial (of_decide_eq_true (by first | (with_reducible assumption) | assumption)) (Nat.le_trans (Nat.mul_le_mul_right _ (of_decide_eq_true (by first | (with_reducible assumption) | assumption) : ji13.toNat ≤ 70368744177664)) (by omega)) (Below.refl _ _) (Nat.le_refl _) ?_; intro v248 w21 ho22 hb hg_ hnew_; clear hg_ hnew_; (first | rw [← Ny247.out] at ho22 | (simp only [Int.reduceToNat] at ho22; rw [← Ny247.out] at ho22)); have n0_ := Aside0.mk (Kd.R_elder' (by (with_reducible repeat (first | apply Kd.R_alloc | apply Kd.R_drewN | apply Kd.R_drew)); exact HO239.out) (Kd.R_base ho22) hb); have n1_ := Aside0.mk (Kd.R_elder' (by (with_reducible repeat (first | apply Kd.R_alloc | apply Kd.R_drewN | apply Kd.R_drew)); exact HO246.out) (Kd.R_base ho22) hb); have n2_ := Aside0.mk (Kd.R_lower (Kd.R_new' (Kd.R_new' ho22 (Kd.R_lt (by (with_reducible repeat (first | apply Kd.R_alloc | apply Kd.R_drewN | apply Kd.R_drew)); exact HO239.out))) (Kd.R_lt (by (with_reducible repeat (first | apply Kd.R_alloc | apply Kd.R_drewN | apply Kd.R_drew)); exact HO246.out))) (below_size (by repeat (first | (with_reducible first | exact HB.out | apply below_alloc | apply pw_below_drewN | apply below_drew1) | exact HB.out)))); have n3_ := Aside0.mk (Kd.C_below (by repeat (first | (with_reducible exact HR243.out) | (with_reducible refine Kd.C_alloc ?_ _) | (with_reducible refine Kd.C_drewN ?_ _) | (with_reducible refine Kd.C_drew ?_) | exact HR243.out)) hb); have n4_ := Aside0.mk (below_step (by repeat (first | (with_reducible first | exact HB.out | apply below_alloc | apply pw_below_drewN | apply below_drew1) | exact HB.out)) hb); clear HO239; clear HO246; clear HR243; clear HB; have HO239 := n0_; have HO246 := n1_; have HO249 := n2_; have HR243 := n3_; have HB := n4_; clear n0_ n1_ n2_ n3_ n4_; clear hb ho22; obtain ⟨Ao23, co23, eo23⟩ := Kd.R_slice HO249.out; subst eo23))
                      go_loopg [10] k1 (fun kq v10 w' => ∃ (x8_2 : List Int) (x9_2 : List Int) (x10_2 : Int), v10 = .int .i64 x10_2 ∧ Aside0 (limb_long.l1 kq x6_1 y240 x8_2 x9_2 x10_2 = some (r1, r2)) ∧ Aside0 (kq ≤ k1) ∧ Aside0 (Kd.R (Kd.int .u32) 59 w' w.heap.size (fun k_ => some k_ ≠ ((.slice Ao23 y247.length co23) : Value).ownBlock) (.slice Ao20 t244.length co20) x8_2) ∧ Aside0 (Kd.R (Kd.int .u32) 59 w' w.heap.size (fun k_ => some k_ ≠ ((.slice Ao20 t244.length co20) : Value).ownBlock) (.slice Ao23 y247.length co23) x9_2) ∧ Aside0 (Kd.F (Kd.int .u32) w' (fun k_ => some k_ ≠ (.slice Ao20 t244.length co20 : Value).ownBlock ∧ some k_ ≠ (.slice Ao23 y247.length co23 : Value).ownBlock) Ao18 y240.length y240) ∧ Aside0 (Below w.heap.size w w'))
                      case atStart => exact ⟨(t244), (y247), (wrap64 ((y247.length : Int) - 1)), (by first | rfl | (simp; done) | (simp [*]; done)), H', ⟨Nat.le_refl _⟩, ⟨by (with_reducible repeat (first | apply Kd.R_alloc | apply Kd.R_drewN | apply Kd.R_drew)); exact Kd.R_mono HO246.out (fun _ hk => hk.2)⟩, ⟨by (with_reducible repeat (first | apply Kd.R_alloc | apply Kd.R_drewN | apply Kd.R_drew)); exact Kd.R_mono HO249.out (fun _ hk => hk.2)⟩, ⟨by ((with_reducible repeat (first | apply Kd.F_alloc | apply Kd.F_drewN | apply Kd.F_drew)); exact (Kd.F_mono (Kd.F_imp (Kd.V_F (Kd.R_V (base' := 0) HO239.out)) (fun W' hc => by have h_ := Kd.C_take (m := ((l1.length : Int) : Int).toNat) hc KL17.out; rw [← Ny240.out] at h_; exact h_)) (fun k hk => ⟨hk.1.2, hk.2⟩)))⟩, ⟨by repeat (first | (with_reducible first | exact HB.out | apply below_alloc | apply pw_below_drewN | apply below_drew1) | exact HB.out)⟩⟩
                      case round =>
                        clear H'
                        try clear c1
                        try clear q1
                        try clear p2
                        try clear q2
                        try clear hx2
                        try clear c4
                        try clear c4b0
                        try clear c5
                        try clear c5b0
                        try clear c6
                        try clear c6b0
                        try clear c6b1
                        try clear p6
                        try clear c7
                        try clear c8
                        try clear c8b0
                        try clear c8b1
                        try clear c10
                        try clear c10b0
                        try clear c10b1
                        try clear c11
                        try clear c11b0
                        try clear c11b1
                        try clear c14
                        try clear c14b0
                        try clear c14b1
                        try clear c15
                        try clear c15b0
                        try clear c15b1
                        try clear q17
                        try clear p23
                        try clear q23
                        try clear hx23
                        try clear hx236_0
                        try clear p2
                        try clear p236
                        try clear q17
                        try clear q236
                        obtain ⟨x8_2, x9_2, x10_2, rfl, HA, HK2, HO_8, HO_9, HFV_, HB⟩ := hrel
                        have hl8_2 := (Kd.R_reads' HO_8.out).1
                        rw [hl8_2] at HO_8
                        (try simp only [hl8_2])
                        (try simp only [hl8_2] at HO_9)
                        have hl9_2 := (Kd.R_reads' HO_9.out).1
                        rw [hl9_2] at HO_9
                        (try simp only [hl9_2])
                        (try simp only [hl9_2] at HO_8)
                        cases gk with
                        | zero => exact absurd HA.out (by simp [limb_long.l1])
                        | succ k2 =>
                          have H := HA.out
                          clear HA
                          simp only [limb_long.l1] at H
                          by_cases c24 : x10_2 ≥ 0
                          · rw [if_pos c24] at H
                            have c24b0 : decide (0 ≤ x10_2) = true := decide_eq_true c24
                            clear c24
                            replace H := Option.bind_eq_some_iff.mp H
                            obtain ⟨t260, A250, H⟩ := H
                            replace H : ((limb_take.w k2 x8_2 y240 x10_2 t260).bind fun bt261 => (if bt261.1 = true then ((limb_give.w k2 bt261.2 y240 x10_2).bind fun t263 => (if 0 ≤ x10_2 then (if x10_2 < (x9_2.length : Int) then (limb_long.l1 k2 x6_1 y240 t263 (x9_2.set (x10_2 : Int).toNat ((IntKind.u64.wrap (t260 - 1)) % 4294967296)) (wrap64 (x10_2 - 1))) else (none)) else (none))) else (if 0 ≤ x10_2 then (if x10_2 < (x9_2.length : Int) then (limb_long.l1 k2 x6_1 y240 bt261.2 (x9_2.set (x10_2 : Int).toNat ((t260) % 4294967296)) (wrap64 (x10_2 - 1))) else (none)) else (none)))) = some (r1, r2) := H
                            have A25 := Aside0.mk A250
                            clear A250
                            replace H := Option.bind_eq_some_iff.mp H
                            obtain ⟨⟨t261, t262⟩, A260, H⟩ := H
                            replace H : (if t261 = true then ((limb_give.w k2 t262 y240 x10_2).bind fun t263 => (if 0 ≤ x10_2 then (if x10_2 < (x9_2.length : Int) then (limb_long.l1 k2 x6_1 y240 t263 (x9_2.set (x10_2 : Int).toNat ((IntKind.u64.wrap (t260 - 1)) % 4294967296)) (wrap64 (x10_2 - 1))) else (none)) else (none))) else (if 0 ≤ x10_2 then (if x10_2 < (x9_2.length : Int) then (limb_long.l1 k2 x6_1 y240 t262 (x9_2.set (x10_2 : Int).toNat ((t260) % 4294967296)) (wrap64 (x10_2 - 1))) else (none)) else (none))) = some (r1, r2) := H
                            have A26 := Aside0.mk A260
                            clear A260
                            by_cases c27 : t261 = true
                            · subst c27
                              have H1 : ((limb_give.w k2 t262 y240 x10_2).bind fun t263 => (if 0 ≤ x10_2 then (if x10_2 < (x9_2.length : Int) then (limb_long.l1 k2 x6_1 y240 t263 (x9_2.set (x10_2 : Int).toNat ((IntKind.u64.wrap (t260 - 1)) % 4294967296)) (wrap64 (x10_2 - 1))) else (none)) else (none))) = some (r1, r2) := by rw [if_pos rfl] at H; exact H
                              clear H
                              have H := H1
                              clear H1
                              replace H := Option.bind_eq_some_iff.mp H
                              obtain ⟨t263, A280, H⟩ := H
                              replace H : (if 0 ≤ x10_2 then (if x10_2 < (x9_2.length : Int) then (limb_long.l1 k2 x6_1 y240 t263 (x9_2.set (x10_2 : Int).toNat ((IntKind.u64.wrap (t260 - 1)) % 4294967296)) (wrap64 (x10_2 - 1))) else (none)) else (none)) = some (r1, r2) := H
                              have A28 := Aside0.mk A280
                              clear A280
                              by_cases c29 : 0 ≤ x10_2
                              · rw [if_pos c29] at H
                                have c29b0 : decide (0 ≤ x10_2) = true := decide_eq_true c29
                                clear c29
                                by_cases c30 : x10_2 < (x9_2.length : Int)
                                · rw [if_pos c30] at H
                                  have c30b0 : decide (x10_2 < (x9_2.length : Int)) = true := decide_eq_true c30
                                  clear c30
                                  obtain ⟨y264, hy264⟩ : ∃ y_ : List Int, y_ = (x9_2.set (x10_2 : Int).toNat ((IntKind.u64.wrap (t260 - 1)) % 4294967296)) := ⟨_, rfl⟩
                                  replace H : (limb_long.l1 k2 x6_1 y240 t263 y264 (wrap64 (x10_2 - 1))) = some (r1, r2) := by first | (rw [hy264]; with_reducible exact H) | (have H2_ := (Option.bind_some _ _).symm.trans H; rw [hy264]; with_reducible exact H2_) | (have H2_ := (Option.bind_some _ _).symm.trans H; with_reducible exact H2_) | with_reducible exact H | (rw [hy264]; exact H) | exact H
                                  have Ny264 := Aside0.mk hy264
                                  clear hy264
                                  have H' := Aside0.mk H
                                  clear H
                                  obtain ⟨hw0_, hw1_, hG_⟩ := limb_guess.w_some A25.out
                                  obtain ⟨mid1_, hT_, ht3_⟩ := limb_take.w_some A26.out
                                  obtain ⟨pre_, mid_, post_, hpre_, hmid_, hpost_, hsp_, hpl_, hml_, hpos_⟩ := win_facts hw0_ hw1_
                                  rw [← hmid_] at hG_ hT_
                                  rw [← hpre_, ← hpost_] at ht3_
                                  have hm1_ := limb_take.len hT_
                                  obtain ⟨mid2_, hV_, ht4_⟩ := limb_give.w_some A28.out
                                  rw [ht3_, win_mid hpl_ (hm1_.trans hml_)] at hV_
                                  rw [ht3_, win_pre hpl_, win_post hpl_ (hm1_.trans hml_)] at ht4_
                                  obtain ⟨gU_, cU_, eU_, gbU_, glU_, clU_, HGU_⟩ := Kd.R_form HO_8.out hpos_
                                  (first | cases eU_ | (injection eU_ with ea_ en_ ec_; (first | subst ea_ | (injection ea_ with ea_; subst ea_)); subst ec_; clear en_))
                                  have hcutU_ := win_cut (P := Try.prog) 38 59 Try.underlying38 info59 gU_ x8_2.length co20 pre_.length mid_.length y240.length x10_2 hw0_ hpl_ hml_ hw1_ (Kd.R_reads' HO_8.out).2.1 (Kd.R_reads' HO_8.out).2.2.2.1
                                  have HsG_ := Aside0.mk hG_
                                  have HsT_ := Aside0.mk hT_
                                  have Hst3_ := Aside0.mk ht3_
                                  have Hssp_ := Aside0.mk hsp_
                                  have Hsm1_ := Aside0.mk hm1_
                                  have HsV_ := Aside0.mk hV_
                                  have Hst4_ := Aside0.mk ht4_
                                  clear hw0_ hw1_ hG_ hT_ ht3_ hpre_ hmid_ hpost_ hsp_ hpl_ hml_ hpos_ hm1_ gbU_ glU_ HGU_ hV_ ht4_
                                  go_wp2_with (first | ((with_reducible refine gate_callee (f := 73) rfl ?_); refine goesL_ (some 57) rfl rfl Try.func73 (by kernel_rfl) rfl #[.slice (some ⟨gU_, pre_.length, none⟩) mid_.length (co20 - pre_.length), .slice Ao18 y240.length co18] rfl (by (try simp only [List.map_toArray, List.map_cons, List.map_nil]); first | done | rfl | (simp only [List.length_drop, List.length_take]; rfl)) ?_; (with_reducible refine (limb_guess.calls k2 _ _ mid_ _ _ y240 t260 _ ?side1 ?side2 ?side3 ?side4 HsG_.out).mono ?_); (case side1 => repeat (first | exact win_C (win_eq HO_8.out Hssp_.out) | (with_reducible refine Kd.C_alloc ?_ _) | (with_reducible refine Kd.C_drewN ?_ _) | (with_reducible refine Kd.C_drew ?_))); (case side2 => exact win_room (win_eq HO_8.out Hssp_.out)); (case side3 => repeat (first | exact (Kd.F_now HFV_.out) | (with_reducible refine Kd.C_alloc ?_ _) | (with_reducible refine Kd.C_drewN ?_ _) | (with_reducible refine Kd.C_drew ?_))); (case side4 => exact HC243.out); rintro e w' ⟨rfl, ⟨nd, rfl⟩⟩; refine ⟨_, rfl, ?_⟩; (try (rw [drewN_self wr]; generalize hq_ : World.drewN wr _ = wr; have n0_ : Aside0 (Kd.R (Kd.int .u32) 59 wr w.heap.size (fun k_ => some k_ ≠ (.slice Ao23 x9_2.length co23 : Value).ownBlock) (.slice (some ⟨gU_, 0, none⟩) x8_2.length co20) x8_2) := ⟨by rw [← hq_]; exact (by (with_reducible repeat (first | apply Kd.R_alloc | apply Kd.R_drewN | apply Kd.R_drew)); exact HO_8.out)⟩; have n1_ : Aside0 (Kd.R (Kd.int .u32) 59 wr w.heap.size (fun k_ => some k_ ≠ (.slice (some ⟨gU_, 0, none⟩) x8_2.length co20 : Value).ownBlock) (.slice Ao23 x9_2.length co23) x9_2) := ⟨by rw [← hq_]; exact (by (with_reducible repeat (first | apply Kd.R_alloc | apply Kd.R_drewN | apply Kd.R_drew)); exact HO_9.out)⟩; have n2_ : Aside0 (Below w.heap.size w wr) := ⟨by rw [← hq_]; exact (by repeat (first | (with_reducible first | exact HB.out | apply below_alloc | apply pw_below_drewN | apply below_drew1) | exact HB.out))⟩; have n9_ : Aside0 (Kd.F (Kd.int .u32) wr (fun k_ => some k_ ≠ (.slice (some ⟨gU_, 0, none⟩) x8_2.length co20 : Value).ownBlock ∧ some k_ ≠ (.slice Ao23 y247.length co23 : Value).ownBlock) Ao18 y240.length y240) := ⟨by rw [← hq_]; ((with_reducible repeat (first | apply Kd.F_alloc | apply Kd.F_drewN | apply Kd.F_drew)); exact HFV_.out)⟩; clear HFV_; have HFV_ := n9_; clear n9_; clear HO_8 HO_9 HB hq_; have HO_8 := n0_; have HO_9 := n1_; have HB := n2_; clear n0_ n1_ n2_))) | ((with_reducible refine gate_callee (f := 74) rfl ?_); refine goesL_ (some 61) rfl rfl Try.func74 (by kernel_rfl) rfl #[.slice (some ⟨gU_, pre_.length, none⟩) mid_.length (co20 - pre_.length), .slice Ao18 y240.length co18, .int .u64 t260] rfl (by (try simp only [List.map_toArray, List.map_cons, List.map_nil]); first | done | rfl | (simp only [List.length_drop, List.length_take]; rfl)) ?_; (with_reducible refine (limb_take.win k2 (fun k_ => some k_ = (.slice (some ⟨gU_, 0, none⟩) x8_2.length co20 : Value).ownBlock) gU_ x8_2.length co20 (co20 - pre_.length) pre_ mid_ post_ _ _ y240 t260 true mid1_ w _ ?side1 ?side2 ?side3 ?side4 HsT_.out).mono ?_); (case side1 => repeat (first | (with_reducible first | exact HB.out | apply below_alloc | apply pw_below_drewN | apply below_drew1) | exact HB.out)); (case side2 => exact Kd.R_tight rfl (win_eq HO_8.out Hssp_.out)); (case side3 => exact (fun W_ hk_ => Kd.F_now (Kd.F_kept HFV_.out hk_ (fun k_ h_ e_ => h_.1 e_)))); (case side4 => exact HC243.out); rintro e w32 ⟨rfl, hy0, hb, hkp⟩; refine ⟨_, rfl, ?_⟩; rw [← Hst3_.out] at hy0; have n9_ := Aside0.mk (Kd.F_kept HFV_.out hkp (fun k_ h_ e_ => h_.1 e_)); clear HFV_; have HFV_ := n9_; clear n9_; have n0_ := Aside0.mk (Kd.R_reok rfl hy0 (fun k_ e_ => HO_8.out.1 k_ e_)); have n1_ := Aside0.mk (Kd.R_mono (ok' := fun k_ => some k_ ≠ (.slice (some ⟨gU_, 0, none⟩) x8_2.length co20 : Value).ownBlock) (Kd.R_keptB (HO_9.out) hkp (fun k_ hk_ hs_ => (hk_) hs_)) (fun k_ hk_ => hk_.1)); have n2_ := Aside0.mk (hb); clear HO_8; clear HO_9; clear HB; have HO_8 := n0_; have HO_9 := n1_; have HB := n2_; clear n0_ n1_ n2_; (try clear hb); (try clear hkp); (try clear hy0)) | ((with_reducible refine gate_callee (f := 75) rfl ?_); refine goesL_ (some 66) rfl rfl Try.func75 (by kernel_rfl) rfl #[.slice (some ⟨gU_, pre_.length, none⟩) mid1_.length (co20 - pre_.length), .slice Ao18 y240.length co18] rfl (by (try simp only [List.map_toArray, List.map_cons, List.map_nil]); first | done | (rw [Hsm1_.out]; rfl) | rfl | (simp only [List.length_drop, List.length_take]; rfl)) ?_; (with_reducible refine (limb_give.win k2 (fun k_ => some k_ = (.slice (some ⟨gU_, 0, none⟩) x8_2.length co20 : Value).ownBlock) gU_ x8_2.length co20 (co20 - pre_.length) pre_ mid1_ post_ _ _ y240 mid2_ w _ ?side1 ?side2 ?side3 ?side4 HsV_.out).mono ?_); (case side1 => repeat (first | (with_reducible first | exact HB.out | apply below_alloc | apply pw_below_drewN | apply below_drew1) | exact HB.out)); (case side2 => exact Kd.R_tight rfl (win_eq HO_8.out Hst3_.out)); (case side3 => exact (fun W_ hk_ => Kd.F_now (Kd.F_kept HFV_.out hk_ (fun k_ h_ e_ => h_.1 e_)))); (case side4 => exact HC243.out); rintro e w33 ⟨rfl, hy0, hb, hkp⟩; refine ⟨_, rfl, ?_⟩; rw [← Hst4_.out] at hy0; have n9_ := Aside0.mk (Kd.F_kept HFV_.out hkp (fun k_ h_ e_ => h_.1 e_)); clear HFV_; have HFV_ := n9_; clear n9_; have n0_ := Aside0.mk (Kd.R_reok rfl hy0 (fun k_ e_ => HO_8.out.1 k_ e_)); have n1_ := Aside0.mk (Kd.R_mono (ok' := fun k_ => some k_ ≠ (.slice (some ⟨gU_, 0, none⟩) x8_2.length co20 : Value).ownBlock) (Kd.R_keptB (HO_9.out) hkp (fun k_ hk_ hs_ => (hk_) hs_)) (fun k_ hk_ => hk_.1)); have n2_ := Aside0.mk (hb); clear HO_8; clear HO_9; clear HB; have HO_8 := n0_; have HO_9 := n1_; have HB := n2_; clear n0_ n1_ n2_; (try clear hb); (try clear hkp); (try clear hy0); have p31 : 0 ≤ (x10_2 : Int) := of_decide_eq_true (by first | (with_reducible assumption) | assumption); have q31 : (x10_2 : Int) < ((x9_2.length : Int) : Int) := of_decide_eq_true (by first | (with_reducible assumption) | assumption); obtain ⟨go31, co31, eo31, gb31, gl31, cl31, HG31⟩ := Kd.R_form HO_9.out (by omega); (first | cases eo31 | (injection eo31 with ea_ en_ ec_; (first | subst ea_ | (injection ea_ with ea_; subst ea_)); subst ec_; clear en_)); have GB31 := Aside0.mk gb31; have GG31 := Aside0.mk HG31; clear gb31 gl31 HG31; obtain ⟨hx31_0, hf31_0⟩ := Kd.R_celln 0 HO_9.out (x10_2 : Int) p31 q31; replace p31 := eq_true p31; replace q31 := eq_true q31; obtain ⟨hy34_, hz34_⟩ := Kd.R_celln 0 HO_9.out (x10_2 : Int) (of_decide_eq_true (by first | (with_reducible assumption) | assumption)) (of_decide_eq_true (by first | (with_reducible assumption) | assumption)); have HP34 := Kd.R_putg HO_9.out (x10_2 : Int) ((IntKind.u64.wrap (t260 - 1)) % 4294967296)) | ((with_reducible refine gate_store (t := 59) (p := 71) rfl ?_); refine store_event (t := 59) (p := 71) (v := ?vo_w35) (w1 := (w33.setCell ⟨go31, (x10_2 : Int).toNat, none⟩ (.int .u32 ((IntKind.u64.wrap (t260 - 1)) % 4294967296)))) ?hg ?ho ?hn ?hr ?_; (case ho => rfl); (case hg => rfl); (case hn => rfl); (case hr => first | (go_simp; done) | (go_simp; rfl)); intro w35 hw; have hg : w33.grownBy w35 (some go31) := (by rw [hw]; exact HP34.2); have n9_ := Aside0.mk (Kd.F_grown HFV_.out hg (fun k_ h_ => h_.2)); clear HFV_; have HFV_ := n9_; clear n9_; have hp_ : Kd.R (Kd.int .u32) 59 w35 w.heap.size (fun k_ => some k_ ≠ (.slice (some ⟨gU_, 0, none⟩) x8_2.length co20 : Value).ownBlock) (.slice (some ⟨go31, 0, none⟩) x9_2.length co23) y264 := (by rw [hw, Ny264.out]; exact HP34.1); clear HP34; have n0_ := Aside0.mk (Kd.R_after (v := (.slice (some ⟨go31, 0, none⟩) x9_2.length co23)) (v1 := (.slice (some ⟨go31, 0, none⟩) x9_2.length co23)) (ok := (fun _ => True)) (by (with_reducible repeat (first | apply Kd.R_alloc | apply Kd.R_drewN | apply Kd.R_drew)); exact Kd.R_mono HO_8.out (fun _ hk => ⟨trivial, hk⟩)) hg (.inl rfl)); have n1_ := Aside0.mk (hp_); have n2_ := Aside0.mk ((by rw [hw]; exact below_set (HB.out) GB31.out : Below w.heap.size w w35)); clear HO_8; clear HO_9; clear HB; have HO_8 := n0_; have HO_9 := n1_; have HB := n2_; clear n0_ n1_ n2_; clear hg hw hp_))
                                  (try simp only [← hl8_2, ← hl9_2])
                                  go_roundg k2
                                  case measure => have := HK1.out; have := HK2.out; omega
                                  case rel => exact ⟨(t263), (y264), (wrap64 (x10_2 - 1)), (by first | rfl | (simp; done) | (simp [*]; done)), H', ⟨by have := HK1.out; have := HK2.out; omega⟩, ⟨by (try simp only [hl8_2]); (try simp only [hl9_2]); (with_reducible repeat (first | apply Kd.R_alloc | apply Kd.R_drewN | apply Kd.R_drew)); exact Kd.R_mono HO_8.out (fun _ hk => hk.2)⟩, ⟨by (try simp only [hl8_2]); (try simp only [hl9_2]); (with_reducible repeat (first | apply Kd.R_alloc | apply Kd.R_drewN | apply Kd.R_drew)); exact HO_9.out⟩, ⟨by ((with_reducible repeat (first | apply Kd.F_alloc | apply Kd.F_drewN | apply Kd.F_drew)); exact HFV_.out)⟩, ⟨by repeat (first | (with_reducible first | exact HB.out | apply below_alloc | apply pw_below_drewN | apply below_drew1) | exact HB.out)⟩⟩
                                · rw [if_neg c30] at H
                                  exact absurd H (by simp)
                              · rw [if_neg c29] at H
                                exact absurd H (by simp)
                            · replace c27 := Bool.eq_false_iff.mpr c27
                              subst c27
                              have H1 : (if 0 ≤ x10_2 then (if x10_2 < (x9_2.length : Int) then (limb_long.l1 k2 x6_1 y240 t262 (x9_2.set (x10_2 : Int).toNat ((t260) % 4294967296)) (wrap64 (x10_2 - 1))) else (none)) else (none)) = some (r1, r2) := by rw [if_neg (show ¬ (false = true) by decide)] at H; exact H
                              clear H
                              have H := H1
                              clear H1
                              by_cases c36 : 0 ≤ x10_2
                              · rw [if_pos c36] at H
                                have c36b0 : decide (0 ≤ x10_2) = true := decide_eq_true c36
                                clear c36
                                by_cases c37 : x10_2 < (x9_2.length : Int)
                                · rw [if_pos c37] at H
                                  have c37b0 : decide (x10_2 < (x9_2.length : Int)) = true := decide_eq_true c37
                                  clear c37
                                  obtain ⟨y265, hy265⟩ : ∃ y_ : List Int, y_ = (x9_2.set (x10_2 : Int).toNat ((t260) % 4294967296)) := ⟨_, rfl⟩
                                  replace H : (limb_long.l1 k2 x6_1 y240 t262 y265 (wrap64 (x10_2 - 1))) = some (r1, r2) := by first | (rw [hy265]; with_reducible exact H) | (have H2_ := (Option.bind_some _ _).symm.trans H; rw [hy265]; with_reducible exact H2_) | (have H2_ := (Option.bind_some _ _).symm.trans H; with_reducible exact H2_) | with_reducible exact H | (rw [hy265]; exact H) | exact H
                                  have Ny265 := Aside0.mk hy265
                                  clear hy265
                                  have H' := Aside0.mk H
                                  clear H
                                  obtain ⟨hw0_, hw1_, hG_⟩ := limb_guess.w_some A25.out
                                  obtain ⟨mid1_, hT_, ht3_⟩ := limb_take.w_some A26.out
                                  obtain ⟨pre_, mid_, post_, hpre_, hmid_, hpost_, hsp_, hpl_, hml_, hpos_⟩ := win_facts hw0_ hw1_
                                  rw [← hmid_] at hG_ hT_
                                  rw [← hpre_, ← hpost_] at ht3_
                                  have hm1_ := limb_take.len hT_
                                  obtain ⟨gU_, cU_, eU_, gbU_, glU_, clU_, HGU_⟩ := Kd.R_form HO_8.out hpos_
                                  (first | cases eU_ | (injection eU_ with ea_ en_ ec_; (first | subst ea_ | (injection ea_ with ea_; subst ea_)); subst ec_; clear en_))
                                  have hcutU_ := win_cut (P := Try.prog) 38 59 Try.underlying38 info59 gU_ x8_2.length co20 pre_.length mid_.length y240.length x10_2 hw0_ hpl_ hml_ hw1_ (Kd.R_reads' HO_8.out).2.1 (Kd.R_reads' HO_8.out).2.2.2.1
                                  have HsG_ := Aside0.mk hG_
                                  have HsT_ := Aside0.mk hT_
                                  have Hst3_ := Aside0.mk ht3_
                                  have Hssp_ := Aside0.mk hsp_
                                  have Hsm1_ := Aside0.mk hm1_
                                  clear hw0_ hw1_ hG_ hT_ ht3_ hpre_ hmid_ hpost_ hsp_ hpl_ hml_ hpos_ hm1_ gbU_ glU_ HGU_
                                  go_wp2_with (first | ((with_reducible refine gate_callee (f := 73) rfl ?_); refine goesL_ (some 57) rfl rfl Try.func73 (by kernel_rfl) rfl #[.slice (some ⟨gU_, pre_.length, none⟩) mid_.length (co20 - pre_.length), .slice Ao18 y240.length co18] rfl (by (try simp only [List.map_toArray, List.map_cons, List.map_nil]); first | done | rfl | (simp only [List.length_drop, List.length_take]; rfl)) ?_; (with_reducible refine (limb_guess.calls k2 _ _ mid_ _ _ y240 t260 _ ?side1 ?side2 ?side3 ?side4 HsG_.out).mono ?_); (case side1 => repeat (first | exact win_C (win_eq HO_8.out Hssp_.out) | (with_reducible refine Kd.C_alloc ?_ _) | (with_reducible refine Kd.C_drewN ?_ _) | (with_reducible refine Kd.C_drew ?_))); (case side2 => exact win_room (win_eq HO_8.out Hssp_.out)); (case side3 => repeat (first | exact (Kd.F_now HFV_.out) | (with_reducible refine Kd.C_alloc ?_ _) | (with_reducible refine Kd.C_drewN ?_ _) | (with_reducible refine Kd.C_drew ?_))); (case side4 => exact HC243.out); rintro e w' ⟨rfl, ⟨nd, rfl⟩⟩; refine ⟨_, rfl, ?_⟩; (try (rw [drewN_self wr]; generalize hq_ : World.drewN wr _ = wr; have n0_ : Aside0 (Kd.R (Kd.int .u32) 59 wr w.heap.size (fun k_ => some k_ ≠ (.slice Ao23 x9_2.length co23 : Value).ownBlock) (.slice (some ⟨gU_, 0, none⟩) x8_2.length co20) x8_2) := ⟨by rw [← hq_]; exact (by (with_reducible repeat (first | apply Kd.R_alloc | apply Kd.R_drewN | apply Kd.R_drew)); exact HO_8.out)⟩; have n1_ : Aside0 (Kd.R (Kd.int .u32) 59 wr w.heap.size (fun k_ => some k_ ≠ (.slice (some ⟨gU_, 0, none⟩) x8_2.length co20 : Value).ownBlock) (.slice Ao23 x9_2.length co23) x9_2) := ⟨by rw [← hq_]; exact (by (with_reducible repeat (first | apply Kd.R_alloc | apply Kd.R_drewN | apply Kd.R_drew)); exact HO_9.out)⟩; have n2_ : Aside0 (Below w.heap.size w wr) := ⟨by rw [← hq_]; exact (by repeat (first | (with_reducible first | exact HB.out | apply below_alloc | apply pw_below_drewN | apply below_drew1) | exact HB.out))⟩; have n9_ : Aside0 (Kd.F (Kd.int .u32) wr (fun k_ => some k_ ≠ (.slice (some ⟨gU_, 0, none⟩) x8_2.length co20 : Value).ownBlock ∧ some k_ ≠ (.slice Ao23 y247.length co23 : Value).ownBlock) Ao18 y240.length y240) := ⟨by rw [← hq_]; ((with_reducible repeat (first | apply Kd.F_alloc | apply Kd.F_drewN | apply Kd.F_drew)); exact HFV_.out)⟩; clear HFV_; have HFV_ := n9_; clear n9_; clear HO_8 HO_9 HB hq_; have HO_8 := n0_; have HO_9 := n1_; have HB := n2_; clear n0_ n1_ n2_))) | ((with_reducible refine gate_callee (f := 74) rfl ?_); refine goesL_ (some 61) rfl rfl Try.func74 (by kernel_rfl) rfl #[.slice (some ⟨gU_, pre_.length, none⟩) mid_.length (co20 - pre_.length), .slice Ao18 y240.length co18, .int .u64 t260] rfl (by (try simp only [List.map_toArray, List.map_cons, List.map_nil]); first | done | rfl | (simp only [List.length_drop, List.length_take]; rfl)) ?_; (with_reducible refine (limb_take.win k2 (fun k_ => some k_ = (.slice (some ⟨gU_, 0, none⟩) x8_2.length co20 : Value).ownBlock) gU_ x8_2.length co20 (co20 - pre_.length) pre_ mid_ post_ _ _ y240 t260 false mid1_ w _ ?side1 ?side2 ?side3 ?side4 HsT_.out).mono ?_); (case side1 => repeat (first | (with_reducible first | exact HB.out | apply below_alloc | apply pw_below_drewN | apply below_drew1) | exact HB.out)); (case side2 => exact Kd.R_tight rfl (win_eq HO_8.out Hssp_.out)); (case side3 => exact (fun W_ hk_ => Kd.F_now (Kd.F_kept HFV_.out hk_ (fun k_ h_ e_ => h_.1 e_)))); (case side4 => exact HC243.out); rintro e w39 ⟨rfl, hy0, hb, hkp⟩; refine ⟨_, rfl, ?_⟩; rw [← Hst3_.out] at hy0; have n9_ := Aside0.mk (Kd.F_kept HFV_.out hkp (fun k_ h_ e_ => h_.1 e_)); clear HFV_; have HFV_ := n9_; clear n9_; have n0_ := Aside0.mk (Kd.R_reok rfl hy0 (fun k_ e_ => HO_8.out.1 k_ e_)); have n1_ := Aside0.mk (Kd.R_mono (ok' := fun k_ => some k_ ≠ (.slice (some ⟨gU_, 0, none⟩) x8_2.length co20 : Value).ownBlock) (Kd.R_keptB (HO_9.out) hkp (fun k_ hk_ hs_ => (hk_) hs_)) (fun k_ hk_ => hk_.1)); have n2_ := Aside0.mk (hb); clear HO_8; clear HO_9; clear HB; have HO_8 := n0_; have HO_9 := n1_; have HB := n2_; clear n0_ n1_ n2_; (try clear hb); (try clear hkp); (try clear hy0); have p38 : 0 ≤ (x10_2 : Int) := of_decide_eq_true (by first | (with_reducible assumption) | assumption); have q38 : (x10_2 : Int) < ((x9_2.length : Int) : Int) := of_decide_eq_true (by first | (with_reducible assumption) | assumption); obtain ⟨go38, co38, eo38, gb38, gl38, cl38, HG38⟩ := Kd.R_form HO_9.out (by omega); (first | cases eo38 | (injection eo38 with ea_ en_ ec_; (first | subst ea_ | (injection ea_ with ea_; subst ea_)); subst ec_; clear en_)); have GB38 := Aside0.mk gb38; have GG38 := Aside0.mk HG38; clear gb38 gl38 HG38; obtain ⟨hx38_0, hf38_0⟩ := Kd.R_celln 0 HO_9.out (x10_2 : Int) p38 q38; replace p38 := eq_true p38; replace q38 := eq_true q38; obtain ⟨hy40_, hz40_⟩ := Kd.R_celln 0 HO_9.out (x10_2 : Int) (of_decide_eq_true (by first | (with_reducible assumption) | assumption)) (of_decide_eq_true (by first | (with_reducible assumption) | assumption)); have HP40 := Kd.R_putg HO_9.out (x10_2 : Int) ((t260) % 4294967296)) | ((with_reducible refine gate_store (t := 59) (p := 71) rfl ?_); refine store_event (t := 59) (p := 71) (v := ?vo_w41) (w1 := (w39.setCell ⟨go38, (x10_2 : Int).toNat, none⟩ (.int .u32 ((t260) % 4294967296)))) ?hg ?ho ?hn ?hr ?_; (case ho => rfl); (case hg => rfl); (case hn => rfl); (case hr => first | (go_simp; done) | (go_simp; rfl)); intro w41 hw; have hg : w39.grownBy w41 (some go38) := (by rw [hw]; exact HP40.2); have n9_ := Aside0.mk (Kd.F_grown HFV_.out hg (fun k_ h_ => h_.2)); clear HFV_; have HFV_ := n9_; clear n9_; have hp_ : Kd.R (Kd.int .u32) 59 w41 w.heap.size (fun k_ => some k_ ≠ (.slice (some ⟨gU_, 0, none⟩) x8_2.length co20 : Value).ownBlock) (.slice (some ⟨go38, 0, none⟩) x9_2.length co23) y265 := (by rw [hw, Ny265.out]; exact HP40.1); clear HP40; have n0_ := Aside0.mk (Kd.R_after (v := (.slice (some ⟨go38, 0, none⟩) x9_2.length co23)) (v1 := (.slice (some ⟨go38, 0, none⟩) x9_2.length co23)) (ok := (fun _ => True)) (by (with_reducible repeat (first | apply Kd.R_alloc | apply Kd.R_drewN | apply Kd.R_drew)); exact Kd.R_mono HO_8.out (fun _ hk => ⟨trivial, hk⟩)) hg (.inl rfl)); have n1_ := Aside0.mk (hp_); have n2_ := Aside0.mk ((by rw [hw]; exact below_set (HB.out) GB38.out : Below w.heap.size w w41)); clear HO_8; clear HO_9; clear HB; have HO_8 := n0_; have HO_9 := n1_; have HB := n2_; clear n0_ n1_ n2_; clear hg hw hp_))
                                  (try simp only [← hl8_2, ← hl9_2])
                                  go_roundg k2
                                  case measure => have := HK1.out; have := HK2.out; omega
                                  case rel => exact ⟨(t262), (y265), (wrap64 (x10_2 - 1)), (by first | rfl | (simp; done) | (simp [*]; done)), H', ⟨by have := HK1.out; have := HK2.out; omega⟩, ⟨by (try simp only [hl8_2]); (try simp only [hl9_2]); (with_reducible repeat (first | apply Kd.R_alloc | apply Kd.R_drewN | apply Kd.R_drew)); exact Kd.R_mono HO_8.out (fun _ hk => hk.2)⟩, ⟨by (try simp only [hl8_2]); (try simp only [hl9_2]); (with_reducible repeat (first | apply Kd.R_alloc | apply Kd.R_drewN | apply Kd.R_drew)); exact HO_9.out⟩, ⟨by ((with_reducible repeat (first | apply Kd.F_alloc | apply Kd.F_drewN | apply Kd.F_drew)); exact HFV_.out)⟩, ⟨by repeat (first | (with_reducible first | exact HB.out | apply below_alloc | apply pw_below_drewN | apply below_drew1) | exact HB.out)⟩⟩
                                · rw [if_neg c37] at H
                                  exact absurd H (by simp)
                              · rw [if_neg c36] at H
                                exact absurd H (by simp)
                          · rw [if_neg c24] at H
                            have c24b0 : decide (0 ≤ x10_2) = false := decide_eq_false c24
                            clear c24
                            replace H := Option.bind_eq_some_iff.mp H
                            obtain ⟨t250, A420, H⟩ := H
                            replace H : (if 0 ≤ (y240.length : Int) then (if (y240.length : Int) ≤ (x8_2.length : Int) then ((limb_unshift.f k2 (x8_2.take ((y240.length : Int) : Int).toNat) x6_1).bind fun t257 => (some (t250, t257))) else (none)) else (none)) = some (r1, r2) := H
                            have A42 := Aside0.mk A420
                            clear A420
                            by_cases c43 : 0 ≤ (y240.length : Int)
                            · rw [if_pos c43] at H
                              have c43b0 := eq_true c43
                              have c43b1 : decide (0 ≤ (y240.length : Int)) = true := decide_eq_true c43
                              clear c43
                              by_cases c44 : (y240.length : Int) ≤ (x8_2.length : Int)
                              · rw [if_pos c44] at H
                                have c44b0 := eq_true c44
                                have c44b1 : decide ((y240.length : Int) ≤ (x8_2.length : Int)) = true := decide_eq_true c44
                                clear c44
                                obtain ⟨y253, hy253⟩ : ∃ y_ : List Int, y_ = (x8_2.take ((y240.length : Int) : Int).toNat) := ⟨_, rfl⟩
                                replace H : ((limb_unshift.f k2 y253 x6_1).bind fun t257 => (some (t250, t257))) = some (r1, r2) := by first | (rw [hy253]; with_reducible exact H) | (have H2_ := (Option.bind_some _ _).symm.trans H; rw [hy253]; with_reducible exact H2_) | (have H2_ := (Option.bind_some _ _).symm.trans H; with_reducible exact H2_) | with_reducible exact H | (rw [hy253]; exact H) | exact H
                                have Ny253 := Aside0.mk hy253
                                clear hy253
                                replace H := Option.bind_eq_some_iff.mp H
                                obtain ⟨t257, A450, H⟩ := H
                                replace H : (some (t250, t257)) = some (r1, r2) := H
                                have A45 := Aside0.mk A450
                                clear A450
                                simp only [Option.some.injEq, Prod.mk.injEq] at H
                                obtain ⟨rfl, rfl⟩ := H
                                try go_wp2
                                have n0_ := Aside0.mk (Kd.R_drew HO_8.out)
                                have n1_ := Aside0.mk (Kd.R_drew HO_9.out)
                                have n2_ := Aside0.mk (below_drew1 HB.out)
                                clear HO_8
                                clear HO_9
                                clear HB
                                have HO_8 := n0_
                                have HO_9 := n1_
                                have HB := n2_
                                clear n0_ n1_ n2_
                                have q47 : ((y240.length : Int) : Int) ≤ ((x8_2.length : Int) : Int) := of_decide_eq_true (by first | (with_reducible assumption) | assumption)
                                obtain ⟨i047, hi047, _, hsz47, _⟩ := info_parts info59
                                have hroom47 : x8_2.length ≤ co20 := (Kd.R_reads' HO_8.out).2.1
                                have hC47 : Kd.C (Kd.int .u32) _ Ao20 x8_2.length x8_2 := (Kd.R_reads' HO_8.out).2.2
                                have hcut47 := cut_to (P := Try.prog) 38 59 .i64 Try.underlying38 hi047 Ao20 x8_2.length co20 (y240.length : Int) (of_decide_eq_true (by first | (with_reducible assumption) | assumption)) q47 hroom47
                                have hr47 := Kd.C_take (m := ((y240.length : Int) : Int).toNat) hC47 (by omega)
                                have hy47 : y253.length = ((y240.length : Int) : Int).toNat := (by rw [Ny253.out, List.length_take]; omega)
                                rw [← Ny253.out] at hr47
                                rw [← hy47] at hcut47
                                have HR256 := Aside0.mk hr47
                                have HC256 := Aside0.mk (show y253.length ≤ co20 from by omega)
                                clear hr47 hC47 hroom47 hi047 hsz47
                                have KY47 := Aside0.mk hy47
                                clear hy47
                                have KL47 := Aside0.mk (show ((y240.length : Int) : Int).toNat ≤ x8_2.length from by omega)
                                replace q47 := eq_true q47
                                refine start_ (n := 10) (S := fun w' => True) (ds := []) #[false, false, false, false, false, false, false, false, false, false] (by kernel_rfl) rfl rfl trivial (fun hHeld => ?_); refine with_tabW limb_long.tab16 limb_long.bits16 (fun HT_ HW_ => ?_)
                                generalize wr.drew = w46 at HO_8 HO_9 HB HR256 hHeld ⊢
                                refine pure_ (i := 0) (N := some 72) (v := ?_) (a' := ?_) #[true, false, false, false, false, false, false, false, false, false] rfl rfl (any_of HT_.out (by kernel_rfl)) (fun _ _ _ h => h) (Or.inl ⟨by rfl, ?_⟩) ?_ ?_
                                rotate_left
                                · intro w'
                                  go_simp
                                  with_reducible rfl
                                rotate_left
                                · simp only [Act.put, List.setIfInBounds_toArray, List.set_cons_zero, List.set_cons_succ, i64_w, i32_w]
                                  rfl
                                refine pure_ (i := 2) (N := some 74) (v := ?_) (a' := ?_) #[true, false, true, false, false, false, false, false, false, false] rfl rfl (any_of HT_.out (by kernel_rfl)) (fun _ _ _ h => h) (Or.inl ⟨by rfl, ?_⟩) ?_ ?_
                                rotate_left
                                · intro w'
                                  go_simp
                                  with_reducible rfl
                                rotate_left
                                · simp only [Act.put, List.setIfInBounds_toArray, List.set_cons_zero, List.set_cons_succ, i64_w, i32_w]
                                  rfl
                                refine pure_ (i := 3) (N := some 75) (v := ?_) (a' := ?_) #[true, false, true, true, false, false, false, false, false, false] rfl rfl (any_of HT_.out (by kernel_rfl)) (fun _ _ _ h => h) (Or.inl ⟨by rfl, ?_⟩) ?_ ?_
                                rotate_left
                                · intro w'
                                  go_simp
                                  with_reducible rfl
                                rotate_left
                                · simp only [Act.put, List.setIfInBounds_toArray, List.set_cons_zero, List.set_cons_succ, i64_w, i32_w]
                                  rfl
                                refine pure_ (i := 4) (N := some 76) (v := ?_) (a' := ?_) #[true, false, true, true, true, false, false, false, false, false] rfl rfl (any_of HT_.out (by kernel_rfl)) (fun _ _ _ h => h) (Or.inl ⟨by rfl, ?_⟩) ?_ ?_
                                rotate_left
                                · intro w'
                                  go_simp
                                  with_reducible rfl
                                rotate_left
                                · simp only [Act.put, List.setIfInBounds_toArray, List.set_cons_zero, List.set_cons_succ, i64_w, i32_w]
                                  rfl
                                refine pure_ (i := 5) (N := some 77) (v := ?_) (a' := ?_) #[true, false, true, true, true, true, false, false, false, false] rfl rfl (any_of HT_.out (by kernel_rfl)) (fun _ _ _ h => h) (Or.inl ⟨by rfl, ?_⟩) ?_ ?_
                                rotate_left
                                · intro w'
                                  go_simp
                                  with_reducible rfl
                                rotate_left
                                · simp only [Act.put, List.setIfInBounds_toArray, List.set_cons_zero, List.set_cons_succ, i64_w, i32_w]
                                  rfl
                                refine pure_ (i := 6) (N := some 78) (v := ?_) (a' := ?_) #[true, false, true, true, true, true, true, false, false, false] rfl rfl (any_of HT_.out (by kernel_rfl)) (fun _ _ _ h => h) (Or.inl ⟨by rfl, ?_⟩) ?_ ?_
                                rotate_left
                                · intro w'
                                  go_simp
                                  with_reducible rfl
                                rotate_left
                                · simp only [Act.put, List.setIfInBounds_toArray, List.set_cons_zero, List.set_cons_succ, i64_w, i32_w]
                                  rfl
                                refine one_ (i := 1) (N := some 73) #[true, true, true, true, true, true, true, false, false, false] rfl rfl (one_of HT_.out (by kernel_rfl)) (by decide) (fun K hK => ?_)
                                refine goes_ Try.func50 (by kernel_rfl) rfl #[.slice Ao23 x9_2.length co23] (by rfl) rfl rfl (by (try simp only [List.map_toArray, List.map_cons, List.map_nil]); first | done | rfl | (simp only [List.length_drop, List.length_take]; rfl)) ?_
                                with_reducible refine (limb_trim.calls k2 (fun k_ => some k_ = (.slice Ao23 x9_2.length co23 : Value).ownBlock) (.slice Ao23 x9_2.length co23) x9_2 t250 w _ ?side1 ?side2 A42.out).mono ?_
                                (case side1 => repeat (first | (with_reducible first | exact HB.out | apply below_alloc | apply pw_below_drewN | apply below_drew1) | exact HB.out))
                                (case side2 => exact Kd.R_tight rfl HO_9.out)
                                rintro e w48 ⟨v251, rfl, ho0, hb, hkp⟩
                                refine ⟨_, rfl, ?_⟩
                                have n0_ := Aside0.mk (Kd.R_mono (ok' := fun k_ => some k_ ≠ (v251 : Value).ownBlock) (Kd.R_keptB (HO_8.out) hkp (fun k_ hk_ hs_ => (hk_) hs_)) (fun k_ hk_ => fun e_ => Or.elim (ho0.1 k_ e_.symm) (fun hs_ => hk_.2.1 hs_) (fun hn_ => Nat.not_le.2 hk_.2.2 hn_)))
                                have n1_ := Aside0.mk (Kd.R_mono (ok' := fun k_ => some k_ ≠ (.slice Ao20 x8_2.length co20 : Value).ownBlock) ho0 (fun k_ hk_ => Or.elim hk_ (fun hs_ => fun e_ => (((HO_8.out).1 k_ e_.symm)) hs_) (fun hn_ => (Kd.fresh' (Kd.R_lt (by (with_reducible repeat (first | apply Kd.R_alloc | apply Kd.R_drewN | apply Kd.R_drew)); exact HO_8.out)) k_ hn_))))
                                have n2_ := Aside0.mk (hb)
                                clear HO_8
                                clear HB
                                clear HO_9
                                have HO_8 := n0_
                                have HO252 := n1_
                                have HB := n2_
                                clear n0_ n1_ n2_
                                (try clear hb)
                                (try clear hkp)
                                (try clear ho0)
                                refine hK.out _ _ trivial (fun hHeld => ?_)
                                clear hK K
                                refine norm_ (a' := ?_) ?_ ?_
                                rotate_left
                                · show Act.put _ (some 73) _ = _
                                  simp only [Act.put, List.setIfInBounds_toArray, List.set_cons_zero, List.set_cons_succ, i64_w, i32_w]
                                  rfl
                                refine one_ (i := 7) (N := some 79) #[true, true, true, true, true, true, true, true, false, false] rfl rfl (one_of HT_.out (by kernel_rfl)) (by decide) (fun K hK => ?_)
                                refine goes_ Try.func76 (by kernel_rfl) rfl #[.slice Ao20 y253.length co20, .int .i64 x6_1] (by rfl) rfl rfl (by (try simp only [List.map_toArray, List.map_cons, List.map_nil]); first | done | rfl | (simp only [List.length_drop, List.length_take]; rfl)) ?_
                                with_reducible refine (limb_unshift.calls k2 _ _ y253 x6_1 t257 _ ?side1 ?side2 A45.out).mono ?_
                                (case side1 => repeat (first | exact (by rw [Ny253.out]; exact Kd.C_pre (Kd.R_reads' (by (with_reducible repeat (first | apply Kd.R_alloc | apply Kd.R_drewN | apply Kd.R_drew)); exact HO_8.out)).2.2 _) | (with_reducible refine Kd.C_alloc ?_ _) | (with_reducible refine Kd.C_drewN ?_ _) | (with_reducible refine Kd.C_drew ?_)))
                                (case side2 => exact HC256.out)
                                rintro e w49 ⟨v258, rfl, ho0, hb⟩
                                refine ⟨_, rfl, ?_⟩
                                have n0_ := Aside0.mk (Kd.R_elder' (by (with_reducible repeat (first | apply Kd.R_alloc | apply Kd.R_drewN | apply Kd.R_drew)); exact HO_8.out) (Kd.R_base ho0) hb)
                                have n1_ := Aside0.mk (Kd.R_elder' (by (with_reducible repeat (first | apply Kd.R_alloc | apply Kd.R_drewN | apply Kd.R_drew)); exact HO252.out) (Kd.R_base ho0) hb)
                                have n2_ := Aside0.mk (Kd.R_lower (Kd.R_new' (Kd.R_new' ho0 (Kd.R_lt (by (with_reducible repeat (first | apply Kd.R_alloc | apply Kd.R_drewN | apply Kd.R_drew)); exact HO_8.out))) (Kd.R_lt (by (with_reducible repeat (first | apply Kd.R_alloc | apply Kd.R_drewN | apply Kd.R_drew)); exact HO252.out))) (below_size (by repeat (first | (with_reducible first | exact HB.out | apply below_alloc | apply pw_below_drewN | apply below_drew1) | exact HB.out))))
                                have n3_ := Aside0.mk (below_step (by repeat (first | (with_reducible first | exact HB.out | apply below_alloc | apply pw_below_drewN | apply below_drew1) | exact HB.out)) hb)
                                clear HO_8
                                clear HO252
                                clear HB
                                have HO_8 := n0_
                                have HO252 := n1_
                                have HO259 := n2_
                                have HB := n3_
                                clear n0_ n1_ n2_ n3_
                                (try clear hb)
                                (try clear hb2)
                                (try clear hk)
                                (try clear hi)
                                (try clear ho0)
                                refine hK.out _ _ trivial (fun hHeld => ?_)
                                clear hK K
                                refine norm_ (a' := ?_) ?_ ?_
                                rotate_left
                                · show Act.put _ (some 79) _ = _
                                  simp only [Act.put, List.setIfInBounds_toArray, List.set_cons_zero, List.set_cons_succ, i64_w, i32_w]
                                  rfl
                                refine pure_ (i := 8) (N := some 4) (v := ?_) (a' := ?_) #[true, true, true, true, true, true, true, true, true, false] rfl rfl (any_of HT_.out (by kernel_rfl)) (fun _ _ _ h => h) (Or.inl ⟨by rfl, ?_⟩) ?_ ?_
                                rotate_left
                                · intro w'
                                  go_simp
                                  with_reducible rfl
                                rotate_left
                                · simp only [Act.put, List.setIfInBounds_toArray, List.set_cons_zero, List.set_cons_succ, i64_w, i32_w]
                                  rfl
                                refine pure_ (i := 9) (N := some 5) (v := ?_) (a' := ?_) #[true, true, true, true, true, true, true, true, true, true] rfl rfl (any_of HT_.out (by kernel_rfl)) (fun _ _ _ h => h) (Or.inl ⟨by rfl, ?_⟩) ?_ ?_
                                rotate_left
                                · intro w'
                                  go_simp
                                  with_reducible rfl
                                rotate_left
                                · simp only [Act.put, List.setIfInBounds_toArray, List.set_cons_zero, List.set_cons_succ, i64_w, i32_w]
                                  rfl
                                refine done_ (done_of HT_.out (by kernel_rfl)) ?_
                                try go_wp2
                                go_ret2
                                exact ⟨_, _, by first | rfl | (simp [errW_none, errW_some] <;> rfl) | (simp only [← hji3, ← hji7, ← hji13]; first | rfl | (simp [errW_none, errW_some] <;> rfl)) | (simp [*, errW_none, errW_some] <;> rfl), by (with_reducible repeat (first | apply Kd.R_alloc | apply Kd.R_drewN | apply Kd.R_drew)); exact Kd.R_mono HO252.out (fun _ hk => hk.2), by (with_reducible repeat (first | apply Kd.R_alloc | apply Kd.R_drewN | apply Kd.R_drew)); exact Kd.R_mono HO259.out (fun _ hk => hk.2), by repeat (first | (with_reducible first | exact HB.out | apply below_alloc | apply pw_below_drewN | apply below_drew1) | exact HB.out)⟩
                              · rw [if_neg c44] at H
                                exact absurd H (by simp)
                            · rw [if_neg c43] at H
                              exact absurd H (by simp)
                    · rw [if_neg c15] at H
                      exact absurd H (by simp)
                  · rw [if_neg c14] at H
                    exact absurd H (by simp)
                · rw [if_neg c11] at H
                  exact absurd H (by simp)
              · rw [if_neg c10] at H
                exact absurd H (by simp)
          · rw [if_neg c6] at H
            exact absurd H (by simp)
        · rw [if_neg c5] at H
          exact absurd H (by simp)
      · rw [if_neg c4] at H
        exact absurd H (by simp)

end Go.Proofs.Ytapmhmkekkhhpaa.PLimbKeeps
