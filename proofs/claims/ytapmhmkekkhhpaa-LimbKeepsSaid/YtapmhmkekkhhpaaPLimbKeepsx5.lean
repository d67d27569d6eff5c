-- Written by pr.py (wip/tools), a program of this session, over the kit's printer.
import Derived.Test.YtapmhmkekkhhpaaPLimbKeepsx0
namespace Go.Proofs.Ytapmhmkekkhhpaa.PLimbKeeps
open Go.RowKit Go.Proofs.YtapmhmkekkhhpaaW.PrintWords Go.Proofs.YtapmhmkekkhhpaaW.PrintLast Go.Proofs.YtapmhmkekkhhpaaW.PrintMore
attribute [local go_sem] max2_int min2_int max_two min_two max_three min_three max_four min_four   -- for this text's walks alone
set_option linter.unusedVariables false
set_option linter.unusedSimpArgs false

/-! ### limb_guess: function 73 -/
mutual
def limb_guess.l0 : Nat → List Int → List Int → Int → Int → Int → Int → Option (Int)
  | 0, _, _, _, _, _, _ => none
  | k + 1, x0, x1, x5, x6, x8, x9 => if (x8 / 4294967296) = 0 then (if 0 ≤ (wrap64 (x5 - 2)) then (if (wrap64 (x5 - 2)) < (x1.length : Int) then (if 0 ≤ (wrap64 (x6 - 3)) then (if (wrap64 (x6 - 3)) < (x0.length : Int) then (limb_guess.j1 k x0 x1 x5 x6 x8 x9 (decide ((IntKind.u64.wrap (x8 * (IntKind.u64.wrap (rd x1 (wrap64 (x5 - 2)))))) > (Go.bits .or .u64 (IntKind.u64.wrap (x9 * 4294967296)) (IntKind.u64.wrap (rd x0 (wrap64 (x6 - 3)))))))) else (none)) else (none)) else (none)) else (none)) else (limb_guess.j1 k x0 x1 x5 x6 x8 x9 true)
def limb_guess.j1 : Nat → List Int → List Int → Int → Int → Int → Int → Bool → Option (Int)
  | 0, _, _, _, _, _, _, _ => none
  | k + 1, x0, x1, x5, x6, x8, x9, x66 => if x66 = true then (if 0 ≤ (wrap64 (x5 - 1)) then (if (wrap64 (x5 - 1)) < (x1.length : Int) then (if ((IntKind.u64.wrap (x9 + (IntKind.u64.wrap (rd x1 (wrap64 (x5 - 1)))))) / 4294967296) = 0 then (limb_guess.l0 k x0 x1 x5 x6 (IntKind.u64.wrap (x8 - 1)) (IntKind.u64.wrap (x9 + (IntKind.u64.wrap (rd x1 (wrap64 (x5 - 1))))))) else (some (IntKind.u64.wrap (x8 - 1)))) else (none)) else (none)) else (some x8)
end
def limb_guess.f (k : Nat) (l0 : List Int) (l1 : List Int) : Option (Int) := if 0 ≤ (wrap64 ((l0.length : Int) - 1)) then (if (wrap64 ((l0.length : Int) - 1)) < (l0.length : Int) then (if 0 ≤ (wrap64 ((l0.length : Int) - 2)) then (if (wrap64 ((l0.length : Int) - 2)) < (l0.length : Int) then (if 0 ≤ (wrap64 ((l1.length : Int) - 1)) then (if (wrap64 ((l1.length : Int) - 1)) < (l1.length : Int) then (if (IntKind.u64.wrap (rd l1 (wrap64 ((l1.length : Int) - 1)))) = 0 then (none) else (limb_guess.l0 k l0 l1 (l1.length : Int) (l0.length : Int) (IntKind.u64.wrap (Int.tdiv (Go.bits .or .u64 (IntKind.u64.wrap ((IntKind.u64.wrap (rd l0 (wrap64 ((l0.length : Int) - 1)))) * 4294967296)) (IntKind.u64.wrap (rd l0 (wrap64 ((l0.length : Int) - 2))))) (IntKind.u64.wrap (rd l1 (wrap64 ((l1.length : Int) - 1)))))) (Int.tmod (Go.bits .or .u64 (IntKind.u64.wrap ((IntKind.u64.wrap (rd l0 (wrap64 ((l0.length : Int) - 1)))) * 4294967296)) (IntKind.u64.wrap (rd l0 (wrap64 ((l0.length : Int) - 2))))) (IntKind.u64.wrap (rd l1 (wrap64 ((l1.length : Int) - 1))))))) else (none)) else (none)) else (none)) else (none)) else (none)) else (none)
theorem limb_guess.mono_l : ∀ k, (∀ y0 y1 y2 y3 y4 y5, LeO (limb_guess.l0 k y0 y1 y2 y3 y4 y5) (limb_guess.l0 (k + 1) y0 y1 y2 y3 y4 y5)) ∧ (∀ y0 y1 y2 y3 y4 y5 y6, LeO (limb_guess.j1 k y0 y1 y2 y3 y4 y5 y6) (limb_guess.j1 (k + 1) y0 y1 y2 y3 y4 y5 y6))
  | 0 => ⟨fun _ _ _ _ _ _ r h => by simp [limb_guess.l0] at h, fun _ _ _ _ _ _ _ r h => by simp [limb_guess.j1] at h⟩
  | k + 1 => by
    obtain ⟨ih0, ih1⟩ := limb_guess.mono_l k
    refine ⟨?_, ?_⟩
    · intro y0 y1 y2 y3 y4 y5
      unfold limb_guess.l0
      repeat' first
      | (with_reducible exact ih0 _ _ _ _ _ _)
      | (with_reducible exact ih1 _ _ _ _ _ _ _)
      | (with_reducible exact LeO.refl _)
      | (with_reducible exact LeO.none _)
      | (with_reducible refine LeO.ite ?_ ?_)
      | (with_reducible refine LeO.bind ?_ (fun _ => ?_))
      | exact ih0 _ _ _ _ _ _
      | exact ih1 _ _ _ _ _ _ _
      | exact LeO.none _
      | refine LeO.ite ?_ ?_
      | refine LeO.bind ?_ (fun _ => ?_)
    · intro y0 y1 y2 y3 y4 y5 y6
      unfold limb_guess.j1
      repeat' first
      | (with_reducible exact ih0 _ _ _ _ _ _)
      | (with_reducible exact ih1 _ _ _ _ _ _ _)
      | (with_reducible exact LeO.refl _)
      | (with_reducible exact LeO.none _)
      | (with_reducible refine LeO.ite ?_ ?_)
      | (with_reducible refine LeO.bind ?_ (fun _ => ?_))
      | exact ih0 _ _ _ _ _ _
      | exact ih1 _ _ _ _ _ _ _
      | exact LeO.none _
      | refine LeO.ite ?_ ?_
      | refine LeO.bind ?_ (fun _ => ?_)
theorem limb_guess.mono : ∀ a0 a1 k, LeO (limb_guess.f k a0 a1) (limb_guess.f (k + 1) a0 a1) := by
  intro a0 a1 k
  obtain ⟨ih0, ih1⟩ := limb_guess.mono_l k
  unfold limb_guess.f
  repeat' first
      | (with_reducible exact ih0 _ _ _ _ _ _)
      | (with_reducible exact ih1 _ _ _ _ _ _ _)
      | (with_reducible exact LeO.refl _)
      | (with_reducible exact LeO.none _)
      | (with_reducible refine LeO.ite ?_ ?_)
      | (with_reducible refine LeO.bind ?_ (fun _ => ?_))
      | exact ih0 _ _ _ _ _ _
      | exact ih1 _ _ _ _ _ _ _
      | exact LeO.none _
      | refine LeO.ite ?_ ?_
      | refine LeO.bind ?_ (fun _ => ?_)
set_option maxHeartbeats 8000000 in
set_option maxRecDepth 100000 in
theorem limb_guess.calls (k : Nat) (A0 : Option Addr) (c0 : Nat) (l0 : List Int) (A1 : Option Addr) (c1 : Nat) (l1 : List Int) (r : Int) (w : World) (hr0 : Kd.C (Kd.int .u32) w A0 l0.length l0) (hc0 : l0.length ≤ c0) (hr1 : Kd.C (Kd.int .u32) w A1 l1.length l1) (hc1 : l1.length ≤ c1) (h : limb_guess.f k l0 l1 = some r) :
    Calls Try.prog 73 #[.slice A0 l0.length c0, .slice A1 l1.length c1] w fun e w' => e = .returned (.int .u64 r) ∧ Drawn0 w w' := by
  have HR0 := Aside0.mk hr0
  have HC0 := Aside0.mk hc0
  clear hr0 hc0
  have HR1 := Aside0.mk hr1
  have HC1 := Aside0.mk hc1
  clear hr1 hc1
  have H : (if 0 ≤ (wrap64 ((l0.length : Int) - 1)) then (if (wrap64 ((l0.length : Int) - 1)) < (l0.length : Int) then (if 0 ≤ (wrap64 ((l0.length : Int) - 2)) then (if (wrap64 ((l0.length : Int) - 2)) < (l0.length : Int) then (if 0 ≤ (wrap64 ((l1.length : Int) - 1)) then (if (wrap64 ((l1.length : Int) - 1)) < (l1.length : Int) then (if (IntKind.u64.wrap (rd l1 (wrap64 ((l1.length : Int) - 1)))) = 0 then (none) else (limb_guess.l0 k l0 l1 (l1.length : Int) (l0.length : Int) (IntKind.u64.wrap (Int.tdiv (Go.bits .or .u64 (IntKind.u64.wrap ((IntKind.u64.wrap (rd l0 (wrap64 ((l0.length : Int) - 1)))) * 4294967296)) (IntKind.u64.wrap (rd l0 (wrap64 ((l0.length : Int) - 2))))) (IntKind.u64.wrap (rd l1 (wrap64 ((l1.length : Int) - 1)))))) (Int.tmod (Go.bits .or .u64 (IntKind.u64.wrap ((IntKind.u64.wrap (rd l0 (wrap64 ((l0.length : Int) - 1)))) * 4294967296)) (IntKind.u64.wrap (rd l0 (wrap64 ((l0.length : Int) - 2))))) (IntKind.u64.wrap (rd l1 (wrap64 ((l1.length : Int) - 1))))))) else (none)) else (none)) else (none)) else (none)) else (none)) else (none)) = some r := h
  clear h
  obtain ⟨ji3, hji3⟩ : ∃ j_ : Int, (wrap64 ((l0.length : Int) - 1)) = j_ := ⟨_, rfl⟩
  replace H : (if 0 ≤ (ji3) then (if (ji3) < (l0.length : Int) then (if 0 ≤ (wrap64 ((l0.length : Int) - 2)) then (if (wrap64 ((l0.length : Int) - 2)) < (l0.length : Int) then (if 0 ≤ (wrap64 ((l1.length : Int) - 1)) then (if (wrap64 ((l1.length : Int) - 1)) < (l1.length : Int) then (if (IntKind.u64.wrap (rd l1 (wrap64 ((l1.length : Int) - 1)))) = 0 then (none) else (limb_guess.l0 k l0 l1 (l1.length : Int) (l0.length : Int) (IntKind.u64.wrap (Int.tdiv (Go.bits .or .u64 (IntKind.u64.wrap ((IntKind.u64.wrap (rd l0 (ji3))) * 4294967296)) (IntKind.u64.wrap (rd l0 (wrap64 ((l0.length : Int) - 2))))) (IntKind.u64.wrap (rd l1 (wrap64 ((l1.length : Int) - 1)))))) (Int.tmod (Go.bits .or .u64 (IntKind.u64.wrap ((IntKind.u64.wrap (rd l0 (ji3))) * 4294967296)) (IntKind.u64.wrap (rd l0 (wrap64 ((l0.length : Int) - 2))))) (IntKind.u64.wrap (rd l1 (wrap64 ((l1.length : Int) - 1))))))) else (none)) else (none)) else (none)) else (none)) else (none)) else (none)) = some r := by first | (rw [hji3] at H; exact H) | (simp only [hji3] at H ⊢; exact H)
  have hji3w : (IntKind.i64.wrap ((l0.length : Int) - 1)) = ji3 := (i64_w _).trans hji3
  by_cases c4 : 0 ≤ (ji3)
  · rw [if_pos c4] at H
    have c4b0 : decide (0 ≤ (ji3)) = true := decide_eq_true c4
    clear c4
    by_cases c5 : (ji3) < (l0.length : Int)
    · rw [if_pos c5] at H
      have c5b0 : decide ((ji3) < (l0.length : Int)) = true := decide_eq_true c5
      clear c5
      obtain ⟨ji6, hji6⟩ : ∃ j_ : Int, (wrap64 ((l0.length : Int) - 2)) = j_ := ⟨_, rfl⟩
      replace H : (if 0 ≤ (ji6) then (if (ji6) < (l0.length : Int) then (if 0 ≤ (wrap64 ((l1.length : Int) - 1)) then (if (wrap64 ((l1.length : Int) - 1)) < (l1.length : Int) then (if (IntKind.u64.wrap (rd l1 (wrap64 ((l1.length : Int) - 1)))) = 0 then (none) else (limb_guess.l0 k l0 l1 (l1.length : Int) (l0.length : Int) (IntKind.u64.wrap (Int.tdiv (Go.bits .or .u64 (IntKind.u64.wrap ((IntKind.u64.wrap (rd l0 (ji3))) * 4294967296)) (IntKind.u64.wrap (rd l0 (ji6)))) (IntKind.u64.wrap (rd l1 (wrap64 ((l1.length : Int) - 1)))))) (Int.tmod (Go.bits .or .u64 (IntKind.u64.wrap ((IntKind.u64.wrap (rd l0 (ji3))) * 4294967296)) (IntKind.u64.wrap (rd l0 (ji6)))) (IntKind.u64.wrap (rd l1 (wrap64 ((l1.length : Int) - 1))))))) else (none)) else (none)) else (none)) else (none)) = some r := by first | (rw [hji6] at H; exact H) | (simp only [hji6] at H ⊢; exact H)
      have hji6w : (IntKind.i64.wrap ((l0.length : Int) - 2)) = ji6 := (i64_w _).trans hji6
      by_cases c7 : 0 ≤ (ji6)
      · rw [if_pos c7] at H
        have c7b0 : decide (0 ≤ (ji6)) = true := decide_eq_true c7
        clear c7
        by_cases c8 : (ji6) < (l0.length : Int)
        · rw [if_pos c8] at H
          have c8b0 : decide ((ji6) < (l0.length : Int)) = true := decide_eq_true c8
          clear c8
          obtain ⟨ji9, hji9⟩ : ∃ j_ : Int, (wrap64 ((l1.length : Int) - 1)) = j_ := ⟨_, rfl⟩
          replace H : (if 0 ≤ (ji9) then (if (ji9) < (l1.length : Int) then (if (IntKind.u64.wrap (rd l1 (ji9))) = 0 then (none) else (limb_guess.l0 k l0 l1 (l1.length : Int) (l0.length : Int) (IntKind.u64.wrap (Int.tdiv (Go.bits .or .u64 (IntKind.u64.wrap ((IntKind.u64.wrap (rd l0 (ji3))) * 4294967296)) (IntKind.u64.wrap (rd l0 (ji6)))) (IntKind.u64.wrap (rd l1 (ji9))))) (Int.tmod (Go.bits .or .u64 (IntKind.u64.wrap ((IntKind.u64.wrap (rd l0 (ji3))) * 4294967296)) (IntKind.u64.wrap (rd l0 (ji6)))) (IntKind.u64.wrap (rd l1 (ji9)))))) else (none)) else (none)) = some r := by first | (rw [hji9] at H; exact H) | (simp only [hji9] at H ⊢; exact H)
          have hji9w : (IntKind.i64.wrap ((l1.length : Int) - 1)) = ji9 := (i64_w _).trans hji9
          by_cases c10 : 0 ≤ (ji9)
          · rw [if_pos c10] at H
            have c10b0 : decide (0 ≤ (ji9)) = true := decide_eq_true c10
            clear c10
            by_cases c11 : (ji9) < (l1.length : Int)
            · rw [if_pos c11] at H
              have c11b0 : decide ((ji9) < (l1.length : Int)) = true := decide_eq_true c11
              clear c11
              by_cases c12 : (IntKind.u64.wrap (rd l1 (ji9))) = 0
              · rw [if_pos c12] at H
                exact absurd H (by simp)
              · rw [if_neg c12] at H
                have c12b0 : ((IntKind.u64.wrap (rd l1 (ji9))) == 0) = false := beq_eq_false_iff_ne.mpr c12
                have c12b1 : ((IntKind.u64.wrap (rd l1 (ji9))) != 0) = true := bne_iff_ne.mpr c12
                have H' := Aside0.mk H
                clear H
                have p210 : 0 ≤ ((ji3) : Int) := of_decide_eq_true (by first | (with_reducible assumption) | assumption)
                have q210 : (ji3) < (l0.length : Int) := of_decide_eq_true (by first | (with_reducible assumption) | assumption)
                obtain ⟨ad210, e210, hx210_0⟩ := Kd.at_int HR0.out (ji3) p210 q210
                cases e210
                replace p210 := eq_true p210
                replace q210 := eq_true q210
                have p211 : 0 ≤ ((ji6) : Int) := of_decide_eq_true (by first | (with_reducible assumption) | assumption)
                have q211 : (ji6) < (l0.length : Int) := of_decide_eq_true (by first | (with_reducible assumption) | assumption)
                obtain ⟨ad211, e211, hx211_0⟩ := Kd.at_int HR0.out (ji6) p211 q211
                obtain rfl : ad210 = ad211 := (by injection e211)
                replace p211 := eq_true p211
                replace q211 := eq_true q211
                have p212 : 0 ≤ ((ji9) : Int) := of_decide_eq_true (by first | (with_reducible assumption) | assumption)
                have q212 : (ji9) < (l1.length : Int) := of_decide_eq_true (by first | (with_reducible assumption) | assumption)
                obtain ⟨ad212, e212, hx212_0⟩ := Kd.at_int HR1.out (ji9) p212 q212
                cases e212
                replace p212 := eq_true p212
                replace q212 := eq_true q212
                have p213 : 0 ≤ ((ji9) : Int) := of_decide_eq_true (by first | (with_reducible assumption) | assumption)
                have q213 : (ji9) < (l1.length : Int) := of_decide_eq_true (by first | (with_reducible assumption) | assumption)
                obtain ⟨ad213, e213, hx213_0⟩ := Kd.at_int HR1.out (ji9) p213 q213
                obtain rfl : ad212 = ad213 := (by injection e213)
                replace p213 := eq_true p213
                replace q213 := eq_true q213
                go_enter Try.func73, Try.ntmps73
                go_wp2
                repeat (go_quiet (fail); try go_wp2)
                go_loopg [8, 9] k (fun kq v8 v9 w' => ∃ (x8_1 : Int) (x9_1 : Int), v8 = .int .u64 x8_1 ∧ v9 = .int .u64 x9_1 ∧ Aside0 (limb_guess.l0 kq l0 l1 (l1.length : Int) (l0.length : Int) x8_1 x9_1 = some r) ∧ Aside0 (kq ≤ k) ∧ Drawn0 w w')
                case atStart => exact ⟨(IntKind.u64.wrap (Int.tdiv (Go.bits .or .u64 (IntKind.u64.wrap ((IntKind.u64.wrap (rd l0 (ji3))) * 4294967296)) (IntKind.u64.wrap (rd l0 (ji6)))) (IntKind.u64.wrap (rd l1 (ji9))))), (Int.tmod (Go.bits .or .u64 (IntKind.u64.wrap ((IntKind.u64.wrap (rd l0 (ji3))) * 4294967296)) (IntKind.u64.wrap (rd l0 (ji6)))) (IntKind.u64.wrap (rd l1 (ji9)))), (by first | rfl | (simp; done) | (simp only [← hji3, ← hji6, ← hji9] <;> (first | rfl | simp)) | (simp [*]; done)), (by first | rfl | (simp; done) | (simp only [← hji3, ← hji6, ← hji9] <;> (first | rfl | simp)) | (simp [*]; done)), H', ⟨Nat.le_refl _⟩, by repeat (first | exact Drawn0.refl _ | apply Drawn0.step)⟩
                case round =>
                  clear H'
                  try clear c1
                  try clear p2
                  try clear q2
                  try clear hx2
                  try clear c4
                  try clear c4b0
                  try clear c5
                  try clear c5b0
                  try clear p6
                  try clear c7
                  try clear c7b0
                  try clear c8
                  try clear c8b0
                  try clear c10
                  try clear c10b0
                  try clear c11
                  try clear c11b0
                  try clear c12
                  try clear c12b0
                  try clear c12b1
                  try clear hx210_0
                  try clear hx211_0
                  try clear hx212_0
                  try clear hx213_0
                  try clear p210
                  try clear p211
                  try clear p212
                  try clear p213
                  try clear q210
                  try clear q211
                  try clear q212
                  try clear q213
                  obtain ⟨x8_1, x9_1, rfl, rfl, HA, HK1, ⟨m1, rfl⟩⟩ := hrel
                  cases gk with
                  | zero => exact absurd HA.out (by simp [limb_guess.l0])
                  | succ k1 =>
                    have H := HA.out
                    clear HA
                    simp only [limb_guess.l0] at H
                    have HC13 := Aside0.mk H
                    clear H
                    go_upto_region 4 with (fail)
                    repeat (go_quiet (fail); go_upto_region 4 with (fail))
                    go_cut [66] (fun v66 wc => ∃ (kq : Nat) (x66_12 : Bool), v66 = .bool x66_12 ∧ Aside0 (limb_guess.j1 kq l0 l1 (l1.length : Int) (l0.length : Int) x8_1 x9_1 x66_12 = some r) ∧ Aside0 (kq ≤ k1) ∧ Drawn0 w wc)
                    case first =>
                      have H := HC13.out
                      clear HC13
                      by_cases c14 : (x8_1 / 4294967296) = 0
                      · rw [if_pos c14] at H
                        have c14b0 : ((x8_1 / 4294967296) == 0) = true := beq_iff_eq.mpr c14
                        have c14b1 : ((x8_1 / 4294967296) != 0) = false := bne_eq_false_iff_eq.mpr c14
                        clear c14
                        (first | rw [c14b0] | (simp only [i64_w, i32_w]; rw [c14b0]) | skip)
                        obtain ⟨ji15, hji15⟩ : ∃ j_ : Int, (wrap64 ((l1.length : Int) - 2)) = j_ := ⟨_, rfl⟩
                        replace H : (if 0 ≤ (ji15) then (if (ji15) < (l1.length : Int) then (if 0 ≤ (wrap64 ((l0.length : Int) - 3)) then (if (wrap64 ((l0.length : Int) - 3)) < (l0.length : Int) then (limb_guess.j1 k1 l0 l1 (l1.length : Int) (l0.length : Int) x8_1 x9_1 (decide ((IntKind.u64.wrap (x8_1 * (IntKind.u64.wrap (rd l1 (ji15))))) > (Go.bits .or .u64 (IntKind.u64.wrap (x9_1 * 4294967296)) (IntKind.u64.wrap (rd l0 (wrap64 ((l0.length : Int) - 3)))))))) else (none)) else (none)) else (none)) else (none)) = some r := by first | (rw [hji15] at H; exact H) | (simp only [hji15] at H ⊢; exact H)
                        have hji15w : (IntKind.i64.wrap ((l1.length : Int) - 2)) = ji15 := (i64_w _).trans hji15
                        by_cases c16 : 0 ≤ (ji15)
                        · rw [if_pos c16] at H
                          have c16b0 : decide (0 ≤ (ji15)) = true := decide_eq_true c16
                          clear c16
                          by_cases c17 : (ji15) < (l1.length : Int)
                          · rw [if_pos c17] at H
                            have c17b0 : decide ((ji15) < (l1.length : Int)) = true := decide_eq_true c17
                            clear c17
                            obtain ⟨ji18, hji18⟩ : ∃ j_ : Int, (wrap64 ((l0.length : Int) - 3)) = j_ := ⟨_, rfl⟩
                            replace H : (if 0 ≤ (ji18) then (if (ji18) < (l0.length : Int) then (limb_guess.j1 k1 l0 l1 (l1.length : Int) (l0.length : Int) x8_1 x9_1 (decide ((IntKind.u64.wrap (x8_1 * (IntKind.u64.wrap (rd l1 (ji15))))) > (Go.bits .or .u64 (IntKind.u64.wrap (x9_1 * 4294967296)) (IntKind.u64.wrap (rd l0 (ji18))))))) else (none)) else (none)) = some r := by first | (rw [hji18] at H; exact H) | (simp only [hji18] at H ⊢; exact H)
                            have hji18w : (IntKind.i64.wrap ((l0.length : Int) - 3)) = ji18 := (i64_w _).trans hji18
                            by_cases c19 : 0 ≤ (ji18)
                            · rw [if_pos c19] at H
                              have c19b0 : decide (0 ≤ (ji18)) = true := decide_eq_true c19
                              clear c19
                              by_cases c20 : (ji18) < (l0.length : Int)
                              · rw [if_pos c20] at H
                                have c20b0 : decide ((ji18) < (l0.length : Int)) = true := decide_eq_true c20
                                clear c20
                                have H' := Aside0.mk H
                                clear H
                                have p214 : 0 ≤ ((ji15) : Int) := of_decide_eq_true (by first | (with_reducible assumption) | assumption)
                                have q214 : (ji15) < (l1.length : Int) := of_decide_eq_true (by first | (with_reducible assumption) | assumption)
                                obtain ⟨ad214, e214, hx214_0⟩ := Kd.at_int HR1.out (ji15) p214 q214
                                obtain rfl : ad212 = ad214 := (by injection e214)
                                replace p214 := eq_true p214
                                replace q214 := eq_true q214
                                have p215 : 0 ≤ ((ji18) : Int) := of_decide_eq_true (by first | (with_reducible assumption) | assumption)
                                have q215 : (ji18) < (l0.length : Int) := of_decide_eq_true (by first | (with_reducible assumption) | assumption)
                                obtain ⟨ad215, e215, hx215_0⟩ := Kd.at_int HR0.out (ji18) p215 q215
                                obtain rfl : ad210 = ad215 := (by injection e215)
                                replace p215 := eq_true p215
                                replace q215 := eq_true q215
                                go_wp2
                                repeat (go_quiet (fail); try go_wp2)
                                go_meet
                                case rel => exact ⟨_, (decide ((IntKind.u64.wrap (x8_1 * (IntKind.u64.wrap (rd l1 (ji15))))) > (Go.bits .or .u64 (IntKind.u64.wrap (x9_1 * 4294967296)) (IntKind.u64.wrap (rd l0 (ji18)))))), (by first | rfl | (simp; done) | (simp only [← hji15, ← hji18] <;> (first | rfl | simp)) | (simp [*]; done)), H', ⟨by have := HK1.out; first | omega | exact Nat.le_refl _⟩, by repeat (first | exact Drawn0.refl _ | apply Drawn0.step)⟩
                              · rw [if_neg c20] at H
                                exact absurd H (by simp)
                            · rw [if_neg c19] at H
                              exact absurd H (by simp)
                          · rw [if_neg c17] at H
                            exact absurd H (by simp)
                        · rw [if_neg c16] at H
                          exact absurd H (by simp)
                      · rw [if_neg c14] at H
                        have c14b0 : ((x8_1 / 4294967296) == 0) = false := beq_eq_false_iff_ne.mpr c14
                        have c14b1 : ((x8_1 / 4294967296) != 0) = true := bne_iff_ne.mpr c14
                        (first | rw [c14b0] | (simp only [i64_w, i32_w]; rw [c14b0]) | skip)
                        have H' := Aside0.mk H
                        clear H
                        go_wp2
                        repeat (go_quiet (fail); try go_wp2)
                        go_meet
                        case rel => exact ⟨_, (true), (by first | rfl | (simp; done) | (simp [*]; done)), H', ⟨by have := HK1.out; first | omega | exact Nat.le_refl _⟩, by repeat (first | exact Drawn0.refl _ | apply Drawn0.step)⟩
                    case rest =>
                      clear HC13
                      try clear c1
                      try clear c2
                      try clear p2
                      try clear q2
                      try clear hx2
                      try clear c4
                      try clear c4b0
                      try clear c5
                      try clear c5b0
                      try clear p6
                      try clear c7
                      try clear c7b0
                      try clear c8
                      try clear c8b0
                      try clear c10
                      try clear c10b0
                      try clear c11
                      try clear c11b0
                      try clear c12
                      try clear c12b0
                      try clear c12b1
                      try clear c14
                      try clear c14b0
                      try clear c14b1
                      try clear c16
                      try clear c16b0
                      try clear c17
                      try clear c17b0
                      try clear c19
                      try clear c19b0
                      try clear c20
                      try clear c20b0
                      try clear hx210_0
                      try clear hx211_0
                      try clear hx212_0
                      try clear hx213_0
                      try clear hx214_0
                      try clear hx215_0
                      try clear p2
                      try clear p210
                      try clear p211
                      try clear p212
                      try clear p213
                      try clear p214
                      try clear p215
                      try clear p6
                      try clear q2
                      try clear q210
                      try clear q211
                      try clear q212
                      try clear q213
                      try clear q214
                      try clear q215
                      obtain ⟨kq, x66_12, rfl, HA, HJ12, ⟨mc12, rfl⟩⟩ := hcut
                      cases kq with
                      | zero => exact absurd HA.out (by simp [limb_guess.j1])
                      | succ kj12 =>
                        have H := HA.out
                        clear HA
                        simp only [limb_guess.j1] at H
                        by_cases c21 : x66_12 = true
                        · subst c21
                          have H1 : (if 0 ≤ (wrap64 ((l1.length : Int) - 1)) then (if (wrap64 ((l1.length : Int) - 1)) < (l1.length : Int) then (if ((IntKind.u64.wrap (x9_1 + (IntKind.u64.wrap (rd l1 (wrap64 ((l1.length : Int) - 1)))))) / 4294967296) = 0 then (limb_guess.l0 kj12 l0 l1 (l1.length : Int) (l0.length : Int) (IntKind.u64.wrap (x8_1 - 1)) (IntKind.u64.wrap (x9_1 + (IntKind.u64.wrap (rd l1 (wrap64 ((l1.length : Int) - 1))))))) else (some (IntKind.u64.wrap (x8_1 - 1)))) else (none)) else (none)) = some r := by rw [if_pos rfl] at H; exact H
                          clear H
                          have H := H1
                          clear H1
                          replace H : (if 0 ≤ (ji9) then (if (ji9) < (l1.length : Int) then (if ((IntKind.u64.wrap (x9_1 + (IntKind.u64.wrap (rd l1 (ji9))))) / 4294967296) = 0 then (limb_guess.l0 kj12 l0 l1 (l1.length : Int) (l0.length : Int) (IntKind.u64.wrap (x8_1 - 1)) (IntKind.u64.wrap (x9_1 + (IntKind.u64.wrap (rd l1 (ji9)))))) else (some (IntKind.u64.wrap (x8_1 - 1)))) else (none)) else (none)) = some r := by first | (rw [hji9] at H; exact H) | (simp only [hji9] at H ⊢; exact H)
                          by_cases c23 : 0 ≤ (ji9)
                          · rw [if_pos c23] at H
                            have c23b0 : decide (0 ≤ (ji9)) = true := decide_eq_true c23
                            clear c23
                            by_cases c24 : (ji9) < (l1.length : Int)
                            · rw [if_pos c24] at H
                              have c24b0 : decide ((ji9) < (l1.length : Int)) = true := decide_eq_true c24
                              clear c24
                              by_cases c25 : ((IntKind.u64.wrap (x9_1 + (IntKind.u64.wrap (rd l1 (ji9))))) / 4294967296) = 0
                              · rw [if_pos c25] at H
                                have c25b0 : (((IntKind.u64.wrap (x9_1 + (IntKind.u64.wrap (rd l1 (ji9))))) / 4294967296) == 0) = true := beq_iff_eq.mpr c25
                                have c25b1 : (((IntKind.u64.wrap (x9_1 + (IntKind.u64.wrap (rd l1 (ji9))))) / 4294967296) != 0) = false := bne_eq_false_iff_eq.mpr c25
                                clear c25
                                have H' := Aside0.mk H
                                clear H
                                have p216 : 0 ≤ ((ji9) : Int) := of_decide_eq_true (by first | (with_reducible assumption) | assumption)
                                have q216 : (ji9) < (l1.length : Int) := of_decide_eq_true (by first | (with_reducible assumption) | assumption)
                                obtain ⟨ad216, e216, hx216_0⟩ := Kd.at_int HR1.out (ji9) p216 q216
                                obtain rfl : ad212 = ad216 := (by injection e216)
                                replace p216 := eq_true p216
                                replace q216 := eq_true q216
                                go_wp2
                                repeat (go_quiet (fail); try go_wp2)
                                go_roundg kj12
                                case measure => have := HK1.out; have := HJ12.out; omega
                                case rel => exact ⟨(IntKind.u64.wrap (x8_1 - 1)), (IntKind.u64.wrap (x9_1 + (IntKind.u64.wrap (rd l1 (ji9))))), (by first | rfl | (simp; done) | (simp [*]; done)), (by first | rfl | (simp; done) | (simp only [← hji9] <;> (first | rfl | simp)) | (simp [*]; done)), H', ⟨by have := HK1.out; have := HJ12.out; omega⟩, by repeat (first | exact Drawn0.refl _ | apply Drawn0.step)⟩
                              · rw [if_neg c25] at H
                                have c25b0 : (((IntKind.u64.wrap (x9_1 + (IntKind.u64.wrap (rd l1 (ji9))))) / 4294967296) == 0) = false := beq_eq_false_iff_ne.mpr c25
                                have c25b1 : (((IntKind.u64.wrap (x9_1 + (IntKind.u64.wrap (rd l1 (ji9))))) / 4294967296) != 0) = true := bne_iff_ne.mpr c25
                                obtain rfl := Option.some.inj H
                                have p216 : 0 ≤ ((ji9) : Int) := of_decide_eq_true (by first | (with_reducible assumption) | assumption)
                                have q216 : (ji9) < (l1.length : Int) := of_decide_eq_true (by first | (with_reducible assumption) | assumption)
                                obtain ⟨ad216, e216, hx216_0⟩ := Kd.at_int HR1.out (ji9) p216 q216
                                obtain rfl : ad212 = ad216 := (by injection e216)
                                replace p216 := eq_true p216
                                replace q216 := eq_true q216
                                go_wp2
                                repeat (go_quiet (fail); try go_wp2)
                                go_ret
                                exact ⟨by first | rfl | (simp; done) | (simp only [← hji3, ← hji6, ← hji9, ← hji9] <;> (first | rfl | simp)) | (simp [*]; done), by repeat (first | exact Drawn0.refl _ | apply Drawn0.step)⟩
                            · rw [if_neg c24] at H
                              exact absurd H (by simp)
                          · rw [if_neg c23] at H
                            exact absurd H (by simp)
                        · replace c21 := Bool.eq_false_iff.mpr c21
                          subst c21
                          have H1 : (some x8_1) = some r := by rw [if_neg (show ¬ (false = true) by decide)] at H; exact H
                          clear H
                          have H := H1
                          clear H1
                          obtain rfl := Option.some.inj H
                          go_wp2
                          repeat (go_quiet (fail); try go_wp2)
                          go_ret
                          exact ⟨by first | rfl | (simp; done) | (simp only [← hji3, ← hji6, ← hji9] <;> (first | rfl | simp)) | (simp [*]; done), by repeat (first | exact Drawn0.refl _ | apply Drawn0.step)⟩
            · rw [if_neg c11] at H
              exact absurd H (by simp)
          · rw [if_neg c10] at H
            exact absurd H (by simp)
        · rw [if_neg c8] at H
          exact absurd H (by simp)
      · rw [if_neg c7] at H
        exact absurd H (by simp)
    · rw [if_neg c5] at H
      exact absurd H (by simp)
  · rw [if_neg c4] at H
    exact absurd H (by simp)

end Go.Proofs.Ytapmhmkekkhhpaa.PLimbKeeps
