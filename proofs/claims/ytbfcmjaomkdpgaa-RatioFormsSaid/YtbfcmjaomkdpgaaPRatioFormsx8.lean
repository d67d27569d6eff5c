-- Written by pr.py (wip/tools), a program of this session, over the kit's printer.
import Derived.Test.YtbfcmjaomkdpgaaPRatioFormsx0
namespace Go.Proofs.Ytbfcmjaomkdpgaa.PRatioForms
open Go.RowKit Go.Proofs.YtbfcmjaomkdpgaaW.PrintWords Go.Proofs.YtbfcmjaomkdpgaaW.PrintLast Go.Proofs.YtbfcmjaomkdpgaaW.PrintMore
attribute [local go_sem] max2_int min2_int max_two min_two max_three min_three max_four min_four   -- for this text's walks alone
set_option linter.unusedVariables false
set_option linter.unusedSimpArgs false

/-! ### psephosref01_Formed: function 65 -/
def psephosref01_Formed.f (l0 : List Int) : Option (Bool) := if (l0.length : Int) ≤ 400 then (if (l0.length : Int) = 0 then (some true) else (if 0 ≤ (wrap64 ((l0.length : Int) - 1)) then (if (wrap64 ((l0.length : Int) - 1)) < (l0.length : Int) then (some ((rd l0 (wrap64 ((l0.length : Int) - 1))) != 0)) else (none)) else (none))) else (some false)
set_option maxHeartbeats 8000000 in
set_option maxRecDepth 100000 in
theorem psephosref01_Formed.calls (A0 : Option Addr) (c0 : Nat) (l0 : List Int) (r : Bool) (w : World) (hr0 : Kd.C (Kd.int .u32) w A0 l0.length l0) (hc0 : l0.length ≤ c0) (h : psephosref01_Formed.f l0 = some r) :
    Calls Try.prog 65 #[.slice A0 l0.length c0] w fun e w' => e = .returned (.bool r) ∧ Drawn0 w w' := by
  have HR0 := Aside0.mk hr0
  have HC0 := Aside0.mk hc0
  clear hr0 hc0
  have H : (if (l0.length : Int) ≤ 400 then (if (l0.length : Int) = 0 then (some true) else (if 0 ≤ (wrap64 ((l0.length : Int) - 1)) then (if (wrap64 ((l0.length : Int) - 1)) < (l0.length : Int) then (some ((rd l0 (wrap64 ((l0.length : Int) - 1))) != 0)) else (none)) else (none))) else (some false)) = some r := h
  clear h
  by_cases c2 : (l0.length : Int) ≤ 400
  · rw [if_pos c2] at H
    have c2b0 : decide ((l0.length : Int) ≤ 400) = true := decide_eq_true c2
    have c2b1 : decide (l0.length ≤ 400) = true := decide_eq_true (by omega)
    clear c2
    by_cases c3 : (l0.length : Int) = 0
    · rw [if_pos c3] at H
      have c3b0 : ((l0.length : Int) == 0) = true := beq_iff_eq.mpr c3
      have c3b1 : ((l0.length : Int) != 0) = false := bne_eq_false_iff_eq.mpr c3
      clear c3
      obtain rfl := Option.some.inj H
      go_enter Try.func65, Try.ntmps65
      go_wp2
      go_ret
      exact ⟨by first | rfl | (simp; done) | (simp [*]; done), by repeat (first | exact Drawn0.refl _ | apply Drawn0.step)⟩
    · rw [if_neg c3] at H
      have c3b0 : ((l0.length : Int) == 0) = false := beq_eq_false_iff_ne.mpr c3
      have c3b1 : ((l0.length : Int) != 0) = true := bne_iff_ne.mpr c3
      have c3b2 : ¬ (l0 = []) := fun h_ => c3 (by rw [h_]; rfl)
      obtain ⟨ji4, hji4⟩ : ∃ j_ : Int, (wrap64 ((l0.length : Int) - 1)) = j_ := ⟨_, rfl⟩
      replace H : (if 0 ≤ (ji4) then (if (ji4) < (l0.length : Int) then (some ((rd l0 (ji4)) != 0)) else (none)) else (none)) = some r := by first | (rw [hji4] at H; exact H) | (simp only [hji4] at H ⊢; exact H)
      have hji4w : (IntKind.i64.wrap ((l0.length : Int) - 1)) = ji4 := (i64_w _).trans hji4
      by_cases c5 : 0 ≤ (ji4)
      · rw [if_pos c5] at H
        have c5b0 : decide (0 ≤ (ji4)) = true := decide_eq_true c5
        clear c5
        by_cases c6 : (ji4) < (l0.length : Int)
        · rw [if_pos c6] at H
          have c6b0 : decide ((ji4) < (l0.length : Int)) = true := decide_eq_true c6
          clear c6
          obtain rfl := Option.some.inj H
          have p290 : 0 ≤ ((ji4) : Int) := of_decide_eq_true (by first | (with_reducible assumption) | assumption)
          have q290 : (ji4) < (l0.length : Int) := of_decide_eq_true (by first | (with_reducible assumption) | assumption)
          obtain ⟨ad290, e290, hx290_0⟩ := Kd.at_int HR0.out (ji4) p290 q290
          cases e290
          replace p290 := eq_true p290
          replace q290 := eq_true q290
          go_enter Try.func65, Try.ntmps65
          go_wp2
          go_ret
          exact ⟨by first | rfl | (simp; done) | (simp only [← hji4] <;> (first | rfl | simp)) | (simp [*]; done), by repeat (first | exact Drawn0.refl _ | apply Drawn0.step)⟩
        · rw [if_neg c6] at H
          exact absurd H (by simp)
      · rw [if_neg c5] at H
        exact absurd H (by simp)
  · rw [if_neg c2] at H
    have c2b0 : decide ((l0.length : Int) ≤ 400) = false := decide_eq_false c2
    have c2b1 : decide (l0.length ≤ 400) = false := decide_eq_false (by omega)
    clear c2
    obtain rfl := Option.some.inj H
    go_enter Try.func65, Try.ntmps65
    go_wp2
    go_ret
    exact ⟨by first | rfl | (simp; done) | (simp [*]; done), by repeat (first | exact Drawn0.refl _ | apply Drawn0.step)⟩

/-! ### psephosref01_bits: function 109 -/
def psephosref01_bits.l0 : Nat → List Int → Int → Option (Int)
  | 0, _, _ => none
  | k + 1, x0, x3 => if x3 > 0 then (if 0 ≤ (wrap64 (Int.tdiv (wrap64 (x3 - 1)) 32)) then (if (wrap64 (Int.tdiv (wrap64 (x3 - 1)) 32)) < (x0.length : Int) then (if 0 ≤ (IntKind.u64.wrap (Int.tmod (wrap64 (x3 - 1)) 32)) then (if (Go.bits .and .u32 (shr .u32 (rd x0 (wrap64 (Int.tdiv (wrap64 (x3 - 1)) 32))) (IntKind.u64.wrap (Int.tmod (wrap64 (x3 - 1)) 32))) 1) = 0 then (psephosref01_bits.l0 k x0 (wrap64 (x3 - 1))) else (some x3)) else (none)) else (none)) else (none)) else (some x3)
def psephosref01_bits.f (k : Nat) (l0 : List Int) : Option (Int) := psephosref01_bits.l0 k l0 (wrap64 (32 * (l0.length : Int)))
theorem psephosref01_bits.mono_l : ∀ k, (∀ y0 y1, LeO (psephosref01_bits.l0 k y0 y1) (psephosref01_bits.l0 (k + 1) y0 y1))
  | 0 => fun _ _ r h => by simp [psephosref01_bits.l0] at h
  | k + 1 => by
    have ih0 := psephosref01_bits.mono_l k
    · intro y0 y1
      unfold psephosref01_bits.l0
      repeat' first
      | (with_reducible exact ih0 _ _)
      | (with_reducible exact LeO.refl _)
      | (with_reducible exact LeO.none _)
      | (with_reducible refine LeO.ite ?_ ?_)
      | (with_reducible refine LeO.bind ?_ (fun _ => ?_))
      | exact ih0 _ _
      | exact LeO.none _
      | refine LeO.ite ?_ ?_
      | refine LeO.bind ?_ (fun _ => ?_)
theorem psephosref01_bits.mono : ∀ a0 k, LeO (psephosref01_bits.f k a0) (psephosref01_bits.f (k + 1) a0) := by
  intro a0 k
  have ih0 := psephosref01_bits.mono_l k
  unfold psephosref01_bits.f
  repeat' first
      | (with_reducible exact ih0 _ _)
      | (with_reducible exact LeO.refl _)
      | (with_reducible exact LeO.none _)
      | (with_reducible refine LeO.ite ?_ ?_)
      | (with_reducible refine LeO.bind ?_ (fun _ => ?_))
      | exact ih0 _ _
      | exact LeO.none _
      | refine LeO.ite ?_ ?_
      | refine LeO.bind ?_ (fun _ => ?_)
set_option maxHeartbeats 8000000 in
set_option maxRecDepth 100000 in
theorem psephosref01_bits.calls (k : Nat) (A0 : Option Addr) (c0 : Nat) (l0 : List Int) (r : Int) (w : World) (hr0 : Kd.C (Kd.int .u32) w A0 l0.length l0) (hc0 : l0.length ≤ c0) (h : psephosref01_bits.f k l0 = some r) :
    Calls Try.prog 109 #[.slice A0 l0.length c0] w fun e w' => e = .returned (.int .i64 r) ∧ Drawn0 w w' := by
  have HR0 := Aside0.mk hr0
  have HC0 := Aside0.mk hc0
  clear hr0 hc0
  have H : (psephosref01_bits.l0 k l0 (wrap64 (32 * (l0.length : Int)))) = some r := h
  clear h
  have H' := Aside0.mk H
  clear H
  go_enter Try.func109, Try.ntmps109
  go_wp2
  go_loopg [3] k (fun kq v3 w' => ∃ (x3_1 : Int), v3 = .int .i64 x3_1 ∧ Aside0 (psephosref01_bits.l0 kq l0 x3_1 = some r) ∧ Aside0 (kq ≤ k) ∧ Drawn0 w w')
  case atStart => exact ⟨(wrap64 (32 * (l0.length : Int))), (by first | rfl | (simp; done) | (simp [*]; done)), H', ⟨Nat.le_refl _⟩, by repeat (first | exact Drawn0.refl _ | apply Drawn0.step)⟩
  case round =>
    clear H'
    try clear c1
    obtain ⟨x3_1, rfl, HA, HK1, ⟨m1, rfl⟩⟩ := hrel
    cases gk with
    | zero => exact absurd HA.out (by simp [psephosref01_bits.l0])
    | succ k1 =>
      have H := HA.out
      clear HA
      simp only [psephosref01_bits.l0] at H
      by_cases c2 : x3_1 > 0
      · rw [if_pos c2] at H
        have c2b0 : decide (0 < x3_1) = true := decide_eq_true c2
        clear c2
        obtain ⟨ji3, hji3⟩ : ∃ j_ : Int, (wrap64 (Int.tdiv (wrap64 (x3_1 - 1)) 32)) = j_ := ⟨_, rfl⟩
        replace H : (if 0 ≤ (ji3) then (if (ji3) < (l0.length : Int) then (if 0 ≤ (IntKind.u64.wrap (Int.tmod (wrap64 (x3_1 - 1)) 32)) then (if (Go.bits .and .u32 (shr .u32 (rd l0 (ji3)) (IntKind.u64.wrap (Int.tmod (wrap64 (x3_1 - 1)) 32))) 1) = 0 then (psephosref01_bits.l0 k1 l0 (wrap64 (x3_1 - 1))) else (some x3_1)) else (none)) else (none)) else (none)) = some r := by first | (rw [hji3] at H; exact H) | (simp only [hji3] at H ⊢; exact H)
        have hji3w : (IntKind.i64.wrap (Int.tdiv (wrap64 (x3_1 - 1)) 32)) = ji3 := (i64_w _).trans hji3
        by_cases c4 : 0 ≤ (ji3)
        · rw [if_pos c4] at H
          have c4b0 : decide (0 ≤ (ji3)) = true := decide_eq_true c4
          clear c4
          by_cases c5 : (ji3) < (l0.length : Int)
          · rw [if_pos c5] at H
            have c5b0 : decide ((ji3) < (l0.length : Int)) = true := decide_eq_true c5
            clear c5
            obtain ⟨ji6, hji6⟩ : ∃ j_ : Int, (IntKind.u64.wrap (Int.tmod (wrap64 (x3_1 - 1)) 32)) = j_ := ⟨_, rfl⟩
            replace H : (if 0 ≤ (ji6) then (if (Go.bits .and .u32 (shr .u32 (rd l0 (ji3)) (ji6)) 1) = 0 then (psephosref01_bits.l0 k1 l0 (wrap64 (x3_1 - 1))) else (some x3_1)) else (none)) = some r := by first | (rw [hji6] at H; exact H) | (simp only [hji6] at H ⊢; exact H)
            by_cases c7 : 0 ≤ (ji6)
            · rw [if_pos c7] at H
              have c7b0 := eq_true c7
              have c7b1 : decide (0 ≤ (ji6)) = true := decide_eq_true c7
              clear c7
              obtain ⟨ji8, hji8⟩ : ∃ j_ : Int, (shr .u32 (rd l0 (ji3)) (ji6)) = j_ := ⟨_, rfl⟩
              replace H : (if (Go.bits .and .u32 (ji8) 1) = 0 then (psephosref01_bits.l0 k1 l0 (wrap64 (x3_1 - 1))) else (some x3_1)) = some r := by first | (rw [hji8] at H; exact H) | (simp only [hji8] at H ⊢; exact H)
              have hji8_ : ((rd l0 (ji3)) / 2 ^ min (ji6).toNat 32) = ji8 := hji8
              have hji8z : (ji6) ≤ 32 → ((rd l0 (ji3)) / 2 ^ (ji6).toNat) = ji8 := shr_small hji8
              by_cases c9 : (Go.bits .and .u32 (ji8) 1) = 0
              · rw [if_pos c9] at H
                have c9b0 : ((Go.bits .and .u32 (ji8) 1) == 0) = true := beq_iff_eq.mpr c9
                have c9b1 : ((Go.bits .and .u32 (ji8) 1) != 0) = false := bne_eq_false_iff_eq.mpr c9
                clear c9
                have H' := Aside0.mk H
                clear H
                have p291 : 0 ≤ ((ji3) : Int) := of_decide_eq_true (by first | (with_reducible assumption) | assumption)
                have q291 : (ji3) < (l0.length : Int) := of_decide_eq_true (by first | (with_reducible assumption) | assumption)
                obtain ⟨ad291, e291, hx291_0⟩ := Kd.at_int HR0.out (ji3) p291 q291
                cases e291
                replace p291 := eq_true p291
                replace q291 := eq_true q291
                go_wp2
                go_roundg k1
                case measure => have := HK1.out; omega
                case rel => exact ⟨(wrap64 (x3_1 - 1)), (by first | rfl | (simp; done) | (simp [*]; done)), H', ⟨by have := HK1.out; omega⟩, by repeat (first | exact Drawn0.refl _ | apply Drawn0.step)⟩
              · rw [if_neg c9] at H
                have c9b0 : ((Go.bits .and .u32 (ji8) 1) == 0) = false := beq_eq_false_iff_ne.mpr c9
                have c9b1 : ((Go.bits .and .u32 (ji8) 1) != 0) = true := bne_iff_ne.mpr c9
                obtain rfl := Option.some.inj H
                have p291 : 0 ≤ ((ji3) : Int) := of_decide_eq_true (by first | (with_reducible assumption) | assumption)
                have q291 : (ji3) < (l0.length : Int) := of_decide_eq_true (by first | (with_reducible assumption) | assumption)
                obtain ⟨ad291, e291, hx291_0⟩ := Kd.at_int HR0.out (ji3) p291 q291
                cases e291
                replace p291 := eq_true p291
                replace q291 := eq_true q291
                go_wp2
                go_ret
                exact ⟨by first | rfl | (simp; done) | (simp only [← hji3, ← hji6, ← hji8] <;> (first | rfl | simp)) | (simp [*]; done), by repeat (first | exact Drawn0.refl _ | apply Drawn0.step)⟩
            · rw [if_neg c7] at H
              exact absurd H (by simp)
          · rw [if_neg c5] at H
            exact absurd H (by simp)
        · rw [if_neg c4] at H
          exact absurd H (by simp)
      · rw [if_neg c2] at H
        have c2b0 : decide (0 < x3_1) = false := decide_eq_false c2
        clear c2
        obtain rfl := Option.some.inj H
        go_wp2
        go_ret
        exact ⟨by first | rfl | (simp; done) | (simp [*]; done), by repeat (first | exact Drawn0.refl _ | apply Drawn0.step)⟩

/-! ### psephosref01_trim: function 107 -/
def psephosref01_trim.l0 : Nat → List Int → Int → Option (List Int)
  | 0, _, _ => none
  | k + 1, x0, x3 => if x3 > 0 then (if 0 ≤ (wrap64 (x3 - 1)) then (if (wrap64 (x3 - 1)) < (x0.length : Int) then (if (rd x0 (wrap64 (x3 - 1))) = 0 then (psephosref01_trim.l0 k x0 (wrap64 (x3 - 1))) else ((some (([] : List Int) : List Int)).bind fun y293 => (if 0 ≤ x3 then (if x3 ≤ (x0.length : Int) then (if y293.length + (x0.take (x3 : Int).toNat).length < 35184372088832 then (some (y293 ++ (x0.take (x3 : Int).toNat))) else (none)) else (none)) else (none)))) else (none)) else (none)) else ((some (([] : List Int) : List Int)).bind fun y300 => (if 0 ≤ x3 then (if x3 ≤ (x0.length : Int) then (if y300.length + (x0.take (x3 : Int).toNat).length < 35184372088832 then (some (y300 ++ (x0.take (x3 : Int).toNat))) else (none)) else (none)) else (none)))
def psephosref01_trim.f (k : Nat) (l0 : List Int) : Option (List Int) := psephosref01_trim.l0 k l0 (l0.length : Int)
theorem psephosref01_trim.mono_l : ∀ k, (∀ y0 y1, LeO (psephosref01_trim.l0 k y0 y1) (psephosref01_trim.l0 (k + 1) y0 y1))
  | 0 => fun _ _ r h => by simp [psephosref01_trim.l0] at h
  | k + 1 => by
    have ih0 := psephosref01_trim.mono_l k
    · intro y0 y1
      unfold psephosref01_trim.l0
      repeat' first
      | (with_reducible exact ih0 _ _)
      | (with_reducible exact LeO.refl _)
      | (with_reducible exact LeO.none _)
      | (with_reducible refine LeO.ite ?_ ?_)
      | (with_reducible refine LeO.bind ?_ (fun _ => ?_))
      | exact ih0 _ _
      | exact LeO.none _
      | refine LeO.ite ?_ ?_
      | refine LeO.bind ?_ (fun _ => ?_)
theorem psephosref01_trim.mono : ∀ a0 k, LeO (psephosref01_trim.f k a0) (psephosref01_trim.f (k + 1) a0) := by
  intro a0 k
  have ih0 := psephosref01_trim.mono_l k
  unfold psephosref01_trim.f
  repeat' first
      | (with_reducible exact ih0 _ _)
      | (with_reducible exact LeO.refl _)
      | (with_reducible exact LeO.none _)
      | (with_reducible refine LeO.ite ?_ ?_)
      | (with_reducible refine LeO.bind ?_ (fun _ => ?_))
      | exact ih0 _ _
      | exact LeO.none _
      | refine LeO.ite ?_ ?_
      | refine LeO.bind ?_ (fun _ => ?_)
set_option maxHeartbeats 8000000 in
set_option maxRecDepth 100000 in
theorem psephosref01_trim.calls (k : Nat) (A0 : Option Addr) (c0 : Nat) (l0 : List Int) (r : List Int) (w : World) (hr0 : Kd.C (Kd.int .u32) w A0 l0.length l0) (hc0 : l0.length ≤ c0) (h : psephosref01_trim.f k l0 = some r) :
    Calls Try.prog 107 #[.slice A0 l0.length c0] w fun e w' => ∃ v0_ : Value, e = .returned (v0_) ∧ Kd.R (Kd.int .u32) 64 w' w.heap.size (fun _ => True) v0_ r ∧ Below w.heap.size w w' := by
  have HR0 := Aside0.mk hr0
  have HC0 := Aside0.mk hc0
  clear hr0 hc0
  have HB := Aside0.mk (Below.refl w.heap.size w)
  have H : (psephosref01_trim.l0 k l0 (l0.length : Int)) = some r := h
  clear h
  have H' := Aside0.mk H
  clear H
  go_enter Try.func107, Try.ntmps107
  go_wp2
  go_loopg [3] k (fun kq v3 w' => ∃ (x3_1 : Int), v3 = .int .i64 x3_1 ∧ Aside0 (psephosref01_trim.l0 kq l0 x3_1 = some r) ∧ Aside0 (kq ≤ k) ∧ Aside0 (Below w.heap.size w w'))
  case atStart => exact ⟨((l0.length : Int)), (by first | rfl | (simp; done) | (simp [*]; done)), H', ⟨Nat.le_refl _⟩, ⟨by repeat (first | (with_reducible first | exact HB.out | apply below_alloc | apply pw_below_drewN | apply below_drew1) | exact HB.out)⟩⟩
  case round =>
    clear H'
    try clear c1
    obtain ⟨x3_1, rfl, HA, HK1, HB⟩ := hrel
    cases gk with
    | zero => exact absurd HA.out (by simp [psephosref01_trim.l0])
    | succ k1 =>
      have H := HA.out
      clear HA
      simp only [psephosref01_trim.l0] at H
      by_cases c2 : x3_1 > 0
      · rw [if_pos c2] at H
        have c2b0 : decide (0 < x3_1) = true := decide_eq_true c2
        clear c2
        obtain ⟨ji3, hji3⟩ : ∃ j_ : Int, (wrap64 (x3_1 - 1)) = j_ := ⟨_, rfl⟩
        replace H : (if 0 ≤ (ji3) then (if (ji3) < (l0.length : Int) then (if (rd l0 (ji3)) = 0 then (psephosref01_trim.l0 k1 l0 ji3) else ((some (([] : List Int) : List Int)).bind fun y293 => (if 0 ≤ x3_1 then (if x3_1 ≤ (l0.length : Int) then (if y293.length + (l0.take (x3_1 : Int).toNat).length < 35184372088832 then (some (y293 ++ (l0.take (x3_1 : Int).toNat))) else (none)) else (none)) else (none)))) else (none)) else (none)) = some r := by first | (rw [hji3] at H; exact H) | (simp only [hji3] at H ⊢; exact H)
        have hji3w : (IntKind.i64.wrap (x3_1 - 1)) = ji3 := (i64_w _).trans hji3
        by_cases c4 : 0 ≤ (ji3)
        · rw [if_pos c4] at H
          have c4b0 : decide (0 ≤ (ji3)) = true := decide_eq_true c4
          clear c4
          by_cases c5 : (ji3) < (l0.length : Int)
          · rw [if_pos c5] at H
            have c5b0 : decide ((ji3) < (l0.length : Int)) = true := decide_eq_true c5
            clear c5
            by_cases c6 : (rd l0 (ji3)) = 0
            · rw [if_pos c6] at H
              have c6b0 : ((rd l0 (ji3)) == 0) = true := beq_iff_eq.mpr c6
              have c6b1 : ((rd l0 (ji3)) != 0) = false := bne_eq_false_iff_eq.mpr c6
              clear c6
              have H' := Aside0.mk H
              clear H
              have p292 : 0 ≤ ((ji3) : Int) := of_decide_eq_true (by first | (with_reducible assumption) | assumption)
              have q292 : (ji3) < (l0.length : Int) := of_decide_eq_true (by first | (with_reducible assumption) | assumption)
              obtain ⟨ad292, e292, hx292_0⟩ := Kd.at_int HR0.out (ji3) p292 q292
              cases e292
              replace hx292_0 := (HB.out.cell (World.block_lt_of_cell? w _ hx292_0)).trans hx292_0
              replace p292 := eq_true p292
              replace q292 := eq_true q292
              go_wp2
              go_roundg k1
              case measure => have := HK1.out; omega
              case rel => exact ⟨(ji3), (by first | rfl | (simp; done) | (simp only [← hji3] <;> (first | rfl | simp)) | (simp [*]; done)), H', ⟨by have := HK1.out; omega⟩, ⟨by repeat (first | (with_reducible first | exact HB.out | apply below_alloc | apply pw_below_drewN | apply below_drew1) | exact HB.out)⟩⟩
            · rw [if_neg c6] at H
              have c6b0 : ((rd l0 (ji3)) == 0) = false := beq_eq_false_iff_ne.mpr c6
              have c6b1 : ((rd l0 (ji3)) != 0) = true := bne_iff_ne.mpr c6
              obtain ⟨y293, hy293⟩ : ∃ y_ : List Int, y_ = (([] : List Int)) := ⟨_, rfl⟩
              replace H : (if 0 ≤ x3_1 then (if x3_1 ≤ (l0.length : Int) then (if y293.length + (l0.take (x3_1 : Int).toNat).length < 35184372088832 then (some (y293 ++ (l0.take (x3_1 : Int).toNat))) else (none)) else (none)) else (none)) = some r := by first | (rw [hy293]; with_reducible exact H) | (have H2_ := (Option.bind_some _ _).symm.trans H; rw [hy293]; with_reducible exact H2_) | (have H2_ := (Option.bind_some _ _).symm.trans H; with_reducible exact H2_) | with_reducible exact H | (rw [hy293]; exact H) | exact H
              have Ny293 := Aside0.mk hy293
              clear hy293
              by_cases c7 : 0 ≤ x3_1
              · rw [if_pos c7] at H
                have c7b0 := eq_true c7
                have c7b1 : decide (0 ≤ x3_1) = true := decide_eq_true c7
                clear c7
                by_cases c8 : x3_1 ≤ (l0.length : Int)
                · rw [if_pos c8] at H
                  have c8b0 := eq_true c8
                  have c8b1 : decide (x3_1 ≤ (l0.length : Int)) = true := decide_eq_true c8
                  clear c8
                  by_cases c9 : y293.length + (l0.take (x3_1 : Int).toNat).length < 35184372088832
                  · rw [if_pos c9] at H
                    have LMc9 := Aside0.mk c9
                    clear c9
                    obtain ⟨y297, hy297⟩ : ∃ y_ : List Int, y_ = (y293 ++ (l0.take (x3_1 : Int).toNat)) := ⟨_, rfl⟩
                    replace H : (some y297) = some r := by first | (rw [hy297]; with_reducible exact H) | (have H2_ := (Option.bind_some _ _).symm.trans H; rw [hy297]; with_reducible exact H2_) | (have H2_ := (Option.bind_some _ _).symm.trans H; with_reducible exact H2_) | with_reducible exact H | (rw [hy297]; exact H) | exact H
                    have Ny297 := Aside0.mk hy297
                    clear hy297
                    obtain rfl := Option.some.inj H
                    have p292 : 0 ≤ ((ji3) : Int) := of_decide_eq_true (by first | (with_reducible assumption) | assumption)
                    have q292 : (ji3) < (l0.length : Int) := of_decide_eq_true (by first | (with_reducible assumption) | assumption)
                    obtain ⟨ad292, e292, hx292_0⟩ := Kd.at_int HR0.out (ji3) p292 q292
                    cases e292
                    replace hx292_0 := (HB.out.cell (World.block_lt_of_cell? w _ hx292_0)).trans hx292_0
                    replace p292 := eq_true p292
                    replace q292 := eq_true q292
                    go_wp2_with (first | ((with_reducible refine gate_dst (N := 18) rfl ?_); refine Kd.R_lit (Kd.int .u32) _ 64 ?hg (N := 18) ?hd (xs := ([] : List Int)) (inner := []) (ok := fun _ => True) (okp := fun _ => True) ?hr ?hp (fun _ hk => hk) trivial (Below.refl _ _) (Nat.le_refl _) (by simp) ?_; (case hd => rfl); (case hg => rfl); (case hr => first | (go_simp; done) | (go_simp; rfl)); (case hp => exact (Reps.none _ _)); intro v294 w10 ho11 hb hg_ hnew_; clear hg_ hnew_; (first | rw [← Ny293.out] at ho11 | (simp only [Int.reduceToNat] at ho11; rw [← Ny293.out] at ho11)); have n0_ := Aside0.mk (Kd.R_lower ho11 (below_size (by repeat (first | (with_reducible first | exact HB.out | apply below_alloc | apply pw_below_drewN | apply below_drew1) | exact HB.out)))); have n1_ := Aside0.mk (below_step (by repeat (first | (with_reducible first | exact HB.out | apply below_alloc | apply pw_below_drewN | apply below_drew1) | exact HB.out)) hb); clear HB; have HO295 := n0_; have HB := n1_; clear n0_ n1_; clear hb ho11; obtain ⟨i012, hi012, _, hsz12, _⟩ := info_parts info64; obtain ⟨hcut12, hA12, hC12⟩ := print_take_of (P := Try.prog) (Value.int .u32) 0 37 64 .i64 Try.underlying37 hi012 hsz12 (some ad292) c0 l0 x3_1 (of_decide_eq_true (by first | (with_reducible assumption) | assumption)) (of_decide_eq_true (by first | (with_reducible assumption) | assumption)) HC0.out; have HR296 := Aside0.mk (Kd.C_of_reads (h1 := fun _ => rfl) (hA12 _ (Kd.reads_of_C HR0.out))); have HC296 := Aside0.mk hC12; clear hA12 hC12 hi012 hsz12) | ((with_reducible refine gate_builtin (b := .append) (xs := #[.tmp 18, .tmp 21]) rfl ?_); at_builtin; refine Kd.R_append_rows (Kd.int .u32) (w0 := w) w.heap.size rfl (.tmp 18) (.tmp 21) 37 64 (.int .u32 0) 4 rfl Try.underlying37 info64 rfl (by decide) (by omega) v294 y293 (l0.take (x3_1 : Int).toNat) _ _ _ (fun _ => True) (fun _ => False) rfl rfl ?aO ?aR (fun _ _ h => h) (fun _ h => h.elim) ?aF ?aB ?aS ?aL ?_; (case aR => refine rr_len (show (l0.take (x3_1 : Int).toNat).length = x3_1.toNat from (by rw [List.length_take]; have h_ : (x3_1 : Int) ≤ (l0.length : Int) := of_decide_eq_true (by first | (with_reducible assumption) | assumption); omega)) ?_; repeat (first | exact (Kd.C_below HR296.out HB.out) | (with_reducible refine Kd.C_alloc ?_ _) | (with_reducible refine Kd.C_drewN ?_ _) | (with_reducible refine Kd.C_drew ?_))); (case aB => exact (by repeat (first | (with_reducible first | exact HB.out | apply below_alloc | apply pw_below_drewN | apply below_drew1) | exact HB.out))); (case aF => exact (fun _ _ => trivial)); (case aO => exact (by (with_reducible repeat (first | apply Kd.R_alloc | apply Kd.R_drewN | apply Kd.R_drew)); exact HO295.out)); (case aS => exact (below_size (by repeat (first | (with_reducible first | exact HB.out | apply below_alloc | apply pw_below_drewN | apply below_drew1) | exact HB.out)))); (case aL => have := LMc9.out; have hlx_ := (show (l0.take (x3_1 : Int).toNat).length = x3_1.toNat from (by rw [List.length_take]; have h_ : (x3_1 : Int) ≤ (l0.length : Int) := of_decide_eq_true (by first | (with_reducible assumption) | assumption); omega)); omega); intro v298 w13 ho hb hg hat; rw [← Ny297.out] at ho; have n0_ := Aside0.mk (hb); have n1_ := Aside0.mk (ho); clear HB; clear HO295; have HB := n0_; have HO299 := n1_; clear n0_ n1_; clear ho hb hg hat))
                    go_ret
                    exact ⟨_, by first | rfl | (simp [errW_none, errW_some] <;> rfl) | (simp only [← hji3]; first | rfl | (simp [errW_none, errW_some] <;> rfl)) | (simp [*, errW_none, errW_some] <;> rfl), by (with_reducible repeat (first | apply Kd.R_alloc | apply Kd.R_drewN | apply Kd.R_drew)); exact HO299.out, by repeat (first | (with_reducible first | exact HB.out | apply below_alloc | apply pw_below_drewN | apply below_drew1) | exact HB.out)⟩
                  · rw [if_neg c9] at H
                    exact absurd H (by simp)
                · rw [if_neg c8] at H
                  exact absurd H (by simp)
              · rw [if_neg c7] at H
                exact absurd H (by simp)
          · rw [if_neg c5] at H
            exact absurd H (by simp)
        · rw [if_neg c4] at H
          exact absurd H (by simp)
      · rw [if_neg c2] at H
        have c2b0 : decide (0 < x3_1) = false := decide_eq_false c2
        clear c2
        obtain ⟨y300, hy300⟩ : ∃ y_ : List Int, y_ = (([] : List Int)) := ⟨_, rfl⟩
        replace H : (if 0 ≤ x3_1 then (if x3_1 ≤ (l0.length : Int) then (if y300.length + (l0.take (x3_1 : Int).toNat).length < 35184372088832 then (some (y300 ++ (l0.take (x3_1 : Int).toNat))) else (none)) else (none)) else (none)) = some r := by first | (rw [hy300]; with_reducible exact H) | (have H2_ := (Option.bind_some _ _).symm.trans H; rw [hy300]; with_reducible exact H2_) | (have H2_ := (Option.bind_some _ _).symm.trans H; with_reducible exact H2_) | with_reducible exact H | (rw [hy300]; exact H) | exact H
        have Ny300 := Aside0.mk hy300
        clear hy300
        by_cases c14 : 0 ≤ x3_1
        · rw [if_pos c14] at H
          have c14b0 := eq_true c14
          have c14b1 : decide (0 ≤ x3_1) = true := decide_eq_true c14
          clear c14
          by_cases c15 : x3_1 ≤ (l0.length : Int)
          · rw [if_pos c15] at H
            have c15b0 := eq_true c15
            have c15b1 : decide (x3_1 ≤ (l0.length : Int)) = true := decide_eq_true c15
            clear c15
            by_cases c16 : y300.length + (l0.take (x3_1 : Int).toNat).length < 35184372088832
            · rw [if_pos c16] at H
              have LMc16 := Aside0.mk c16
              clear c16
              obtain ⟨y304, hy304⟩ : ∃ y_ : List Int, y_ = (y300 ++ (l0.take (x3_1 : Int).toNat)) := ⟨_, rfl⟩
              replace H : (some y304) = some r := by first | (rw [hy304]; with_reducible exact H) | (have H2_ := (Option.bind_some _ _).symm.trans H; rw [hy304]; with_reducible exact H2_) | (have H2_ := (Option.bind_some _ _).symm.trans H; with_reducible exact H2_) | with_reducible exact H | (rw [hy304]; exact H) | exact H
              have Ny304 := Aside0.mk hy304
              clear hy304
              obtain rfl := Option.some.inj H
              go_wp2_with (first | ((with_reducible refine gate_dst (N := 18) rfl ?_); refine Kd.R_lit (Kd.int .u32) _ 64 ?hg (N := 18) ?hd (xs := ([] : List Int)) (inner := []) (ok := fun _ => True) (okp := fun _ => True) ?hr ?hp (fun _ hk => hk) trivial (Below.refl _ _) (Nat.le_refl _) (by simp) ?_; (case hd => rfl); (case hg => rfl); (case hr => first | (go_simp; done) | (go_simp; rfl)); (case hp => exact (Reps.none _ _)); intro v301 w17 ho18 hb hg_ hnew_; clear hg_ hnew_; (first | rw [← Ny300.out] at ho18 | (simp only [Int.reduceToNat] at ho18; rw [← Ny300.out] at ho18)); have n0_ := Aside0.mk (Kd.R_lower ho18 (below_size (by repeat (first | (with_reducible first | exact HB.out | apply below_alloc | apply pw_below_drewN | apply below_drew1) | exact HB.out)))); have n1_ := Aside0.mk (below_step (by repeat (first | (with_reducible first | exact HB.out | apply below_alloc | apply pw_below_drewN | apply below_drew1) | exact HB.out)) hb); clear HB; have HO302 := n0_; have HB := n1_; clear n0_ n1_; clear hb ho18; obtain ⟨i019, hi019, _, hsz19, _⟩ := info_parts info64; obtain ⟨hcut19, hA19, hC19⟩ := print_take_of (P := Try.prog) (Value.int .u32) 0 37 64 .i64 Try.underlying37 hi019 hsz19 A0 c0 l0 x3_1 (of_decide_eq_true (by first | (with_reducible assumption) | assumption)) (of_decide_eq_true (by first | (with_reducible assumption) | assumption)) HC0.out; have HR303 := Aside0.mk (Kd.C_of_reads (h1 := fun _ => rfl) (hA19 _ (Kd.reads_of_C HR0.out))); have HC303 := Aside0.mk hC19; clear hA19 hC19 hi019 hsz19) | ((with_reducible refine gate_builtin (b := .append) (xs := #[.tmp 18, .tmp 21]) rfl ?_); at_builtin; refine Kd.R_append_rows (Kd.int .u32) (w0 := w) w.heap.size rfl (.tmp 18) (.tmp 21) 37 64 (.int .u32 0) 4 rfl Try.underlying37 info64 rfl (by decide) (by omega) v301 y300 (l0.take (x3_1 : Int).toNat) _ _ _ (fun _ => True) (fun _ => False) rfl rfl ?aO ?aR (fun _ _ h => h) (fun _ h => h.elim) ?aF ?aB ?aS ?aL ?_; (case aR => refine rr_len (show (l0.take (x3_1 : Int).toNat).length = x3_1.toNat from (by rw [List.length_take]; have h_ : (x3_1 : Int) ≤ (l0.length : Int) := of_decide_eq_true (by first | (with_reducible assumption) | assumption); omega)) ?_; repeat (first | exact (Kd.C_below HR303.out HB.out) | (with_reducible refine Kd.C_alloc ?_ _) | (with_reducible refine Kd.C_drewN ?_ _) | (with_reducible refine Kd.C_drew ?_))); (case aB => exact (by repeat (first | (with_reducible first | exact HB.out | apply below_alloc | apply pw_below_drewN | apply below_drew1) | exact HB.out))); (case aF => exact (fun _ _ => trivial)); (case aO => exact (by (with_reducible repeat (first | apply Kd.R_alloc | apply Kd.R_drewN | apply Kd.R_drew)); exact HO302.out)); (case aS => exact (below_size (by repeat (first | (with_reducible first | exact HB.out | apply below_alloc | apply pw_below_drewN | apply below_drew1) | exact HB.out)))); (case aL => have := LMc16.out; have hlx_ := (show (l0.take (x3_1 : Int).toNat).length = x3_1.toNat from (by rw [List.length_take]; have h_ : (x3_1 : Int) ≤ (l0.length : Int) := of_decide_eq_true (by first | (with_reducible assumption) | assumption); omega)); omega); intro v305 w20 ho hb hg hat; rw [← Ny304.out] at ho; have n0_ := Aside0.mk (hb); have n1_ := Aside0.mk (ho); clear HB; clear HO302; have HB := n0_; have HO306 := n1_; clear n0_ n1_; clear ho hb hg hat))
              go_ret
              exact ⟨_, by first | rfl | (simp [errW_none, errW_some] <;> rfl) | (simp [*, errW_none, errW_some] <;> rfl), by (with_reducible repeat (first | apply Kd.R_alloc | apply Kd.R_drewN | apply Kd.R_drew)); exact HO306.out, by repeat (first | (with_reducible first | exact HB.out | apply below_alloc | apply pw_below_drewN | apply below_drew1) | exact HB.out)⟩
            · rw [if_neg c16] at H
              exact absurd H (by simp)
          · rw [if_neg c15] at H
            exact absurd H (by simp)
        · rw [if_neg c14] at H
          exact absurd H (by simp)

/-! ### psephosref01_shifted: function 110 -/
def psephosref01_shifted.l0 : Nat → List Int → Int → List Int → Int → Int → Option (List Int)
  | 0, _, _, _, _, _ => none
  | k + 1, x0, x1, x5, x16, x17 => if x17 < x16 then (if 0 ≤ x17 then (if x17 < (x0.length : Int) then (if 0 ≤ (IntKind.u64.wrap (Int.tmod x1 32)) then (if 0 ≤ (wrap64 (x17 + (wrap64 (Int.tdiv x1 32)))) then (if (wrap64 (x17 + (wrap64 (Int.tdiv x1 32)))) < (x5.length : Int) then (if 0 ≤ (wrap64 ((wrap64 (x17 + (wrap64 (Int.tdiv x1 32)))) + 1)) then (if (wrap64 ((wrap64 (x17 + (wrap64 (Int.tdiv x1 32)))) + 1)) < (x5.length : Int) then (psephosref01_shifted.l0 k x0 x1 ((x5.set ((wrap64 (x17 + (wrap64 (Int.tdiv x1 32)))) : Int).toNat (Go.bits .or .u32 (rd x5 (wrap64 (x17 + (wrap64 (Int.tdiv x1 32))))) ((shl .u64 (IntKind.u64.wrap (rd x0 x17)) (IntKind.u64.wrap (Int.tmod x1 32))) % 4294967296))).set ((wrap64 ((wrap64 (x17 + (wrap64 (Int.tdiv x1 32)))) + 1)) : Int).toNat (((shl .u64 (IntKind.u64.wrap (rd x0 x17)) (IntKind.u64.wrap (Int.tmod x1 32))) / 4294967296) % 4294967296)) x16 (wrap64 (x17 + 1))) else (none)) else (none)) else (none)) else (none)) else (none)) else (none)) else (none)) else ((psephosref01_trim.f k x5).bind fun t314 => (some t314))
def psephosref01_shifted.f (k : Nat) (l0 : List Int) (a1 : Int) : Option (List Int) := if 0 ≤ (wrap64 ((wrap64 ((l0.length : Int) + (wrap64 (Int.tdiv a1 32)))) + 1)) then (if (wrap64 ((wrap64 ((l0.length : Int) + (wrap64 (Int.tdiv a1 32)))) + 1) : Int).toNat ≤ 70368744177664 then (psephosref01_shifted.l0 k l0 a1 (List.replicate (wrap64 ((wrap64 ((l0.length : Int) + (wrap64 (Int.tdiv a1 32)))) + 1) : Int).toNat 0) (l0.length : Int) 0) else (none)) else (none)
theorem psephosref01_shifted.mono_l : ∀ k, (∀ y0 y1 y2 y3 y4, LeO (psephosref01_shifted.l0 k y0 y1 y2 y3 y4) (psephosref01_shifted.l0 (k + 1) y0 y1 y2 y3 y4))
  | 0 => fun _ _ _ _ _ r h => by simp [psephosref01_shifted.l0] at h
  | k + 1 => by
    have ih0 := psephosref01_shifted.mono_l k
    · intro y0 y1 y2 y3 y4
      unfold psephosref01_shifted.l0
      repeat' first
      | (with_reducible exact ih0 _ _ _ _ _)
      | (with_reducible exact psephosref01_trim.mono _ _)
      | (with_reducible exact LeO.refl _)
      | (with_reducible exact LeO.none _)
      | (with_reducible refine LeO.ite ?_ ?_)
      | (with_reducible refine LeO.bind ?_ (fun _ => ?_))
      | exact ih0 _ _ _ _ _
      | exact psephosref01_trim.mono _ _
      | exact LeO.none _
      | refine LeO.ite ?_ ?_
      | refine LeO.bind ?_ (fun _ => ?_)
theorem psephosref01_shifted.mono : ∀ a0 a1 k, LeO (psephosref01_shifted.f k a0 a1) (psephosref01_shifted.f (k + 1) a0 a1) := by
  intro a0 a1 k
  have ih0 := psephosref01_shifted.mono_l k
  unfold psephosref01_shifted.f
  repeat' first
      | (with_reducible exact ih0 _ _ _ _ _)
      | (with_reducible exact psephosref01_trim.mono _ _)
      | (with_reducible exact LeO.refl _)
      | (with_reducible exact LeO.none _)
      | (with_reducible refine LeO.ite ?_ ?_)
      | (with_reducible refine LeO.bind ?_ (fun _ => ?_))
      | exact ih0 _ _ _ _ _
      | exact psephosref01_trim.mono _ _
      | exact LeO.none _
      | refine LeO.ite ?_ ?_
      | refine LeO.bind ?_ (fun _ => ?_)
set_option maxHeartbeats 8000000 in
set_option maxRecDepth 100000 in
theorem psephosref01_shifted.calls (k : Nat) (A0 : Option Addr) (c0 : Nat) (l0 : List Int) (a1 : Int) (r : List Int) (w : World) (hr0 : Kd.C (Kd.int .u32) w A0 l0.length l0) (hc0 : l0.length ≤ c0) (h : psephosref01_shifted.f k l0 a1 = some r) :
    Calls Try.prog 110 #[.slice A0 l0.length c0, .int .i64 a1] w fun e w' => ∃ v0_ : Value, e = .returned (v0_) ∧ Kd.R (Kd.int .u32) 64 w' w.heap.size (fun _ => True) v0_ r ∧ Below w.heap.size w w' := by
  have HR0 := Aside0.mk hr0
  have HC0 := Aside0.mk hc0
  clear hr0 hc0
  have HB := Aside0.mk (Below.refl w.heap.size w)
  have H : (if 0 ≤ (wrap64 ((wrap64 ((l0.length : Int) + (wrap64 (Int.tdiv a1 32)))) + 1)) then (if (wrap64 ((wrap64 ((l0.length : Int) + (wrap64 (Int.tdiv a1 32)))) + 1) : Int).toNat ≤ 70368744177664 then (psephosref01_shifted.l0 k l0 a1 (List.replicate (wrap64 ((wrap64 ((l0.length : Int) + (wrap64 (Int.tdiv a1 32)))) + 1) : Int).toNat 0) (l0.length : Int) 0) else (none)) else (none)) = some r := h
  clear h
  obtain ⟨ji3, hji3⟩ : ∃ j_ : Int, (wrap64 ((wrap64 ((l0.length : Int) + (wrap64 (Int.tdiv a1 32)))) + 1)) = j_ := ⟨_, rfl⟩
  replace H : (if 0 ≤ (ji3) then (if (ji3 : Int).toNat ≤ 70368744177664 then (psephosref01_shifted.l0 k l0 a1 (List.replicate (ji3 : Int).toNat 0) (l0.length : Int) 0) else (none)) else (none)) = some r := by first | (rw [hji3] at H; exact H) | (simp only [hji3] at H ⊢; exact H)
  have hji3w : (IntKind.i64.wrap ((wrap64 ((l0.length : Int) + (wrap64 (Int.tdiv a1 32)))) + 1)) = ji3 := (i64_w _).trans hji3
  by_cases c4 : 0 ≤ (ji3)
  · rw [if_pos c4] at H
    have c4b0 := eq_true c4
    have c4b1 : decide (0 ≤ (ji3)) = true := decide_eq_true c4
    clear c4
    by_cases c5 : (ji3 : Int).toNat ≤ 70368744177664
    · rw [if_pos c5] at H
      have c5b0 := eq_true c5
      have c5b1 : decide ((ji3 : Int).toNat ≤ 70368744177664) = true := decide_eq_true c5
      clear c5
      obtain ⟨y307, hy307⟩ : ∃ y_ : List Int, y_ = (List.replicate (ji3 : Int).toNat 0) := ⟨_, rfl⟩
      replace H : (psephosref01_shifted.l0 k l0 a1 y307 (l0.length : Int) 0) = some r := by first | (rw [hy307]; with_reducible exact H) | (have H2_ := (Option.bind_some _ _).symm.trans H; rw [hy307]; with_reducible exact H2_) | (have H2_ := (Option.bind_some _ _).symm.trans H; with_reducible exact H2_) | with_reducible exact H | (rw [hy307]; exact H) | exact H
      have Ny307 := Aside0.mk hy307
      clear hy307
      have H' := Aside0.mk H
      clear H
      go_enter Try.func110, Try.ntmps110
      go_wp2_with (first | ((with_reducible refine gate_dst (N := 14) rfl ?_); refine Kd.R_make (Kd.int .u32) _ 64 rfl (N := 14) rfl 37 _ _ rfl ji3 rfl rfl Try.underlying37 (.int .u32 0) 4 info64 rfl (by decide) (by omega) 0 (ok := fun _ => True) (okp := fun _ => True) rfl (fun _ hk => hk) trivial (of_decide_eq_true (by first | (with_reducible assumption) | assumption)) (Nat.le_trans (Nat.mul_le_mul_right _ (of_decide_eq_true (by first | (with_reducible assumption) | assumption) : ji3.toNat ≤ 70368744177664)) (by omega)) (Below.refl _ _) (Nat.le_refl _) ?_; intro v308 w6 ho7 hb hg_ hnew_; clear hg_ hnew_; (first | rw [← Ny307.out] at ho7 | (simp only [Int.reduceToNat] at ho7; rw [← Ny307.out] at ho7)); have n0_ := Aside0.mk (Kd.R_lower ho7 (below_size (by repeat (first | (with_reducible first | exact HB.out | apply below_alloc | apply pw_below_drewN | apply below_drew1) | exact HB.out)))); have n1_ := Aside0.mk (below_step (by repeat (first | (with_reducible first | exact HB.out | apply below_alloc | apply pw_below_drewN | apply below_drew1) | exact HB.out)) hb); clear HB; have HO309 := n0_; have HB := n1_; clear n0_ n1_; clear hb ho7))
      go_loopg [17] k (fun kq v17 w' => ∃ (x5_1 : List Int) (x17_1 : Int), v17 = .int .i64 x17_1 ∧ Aside0 (psephosref01_shifted.l0 kq l0 a1 x5_1 (l0.length : Int) x17_1 = some r) ∧ Aside0 (kq ≤ k) ∧ Aside0 (Kd.R (Kd.int .u32) 64 w' w.heap.size (fun _ => True) v308 x5_1) ∧ Aside0 (Below w.heap.size w w'))
      case atStart => exact ⟨(y307), (0), (by first | rfl | (simp; done) | (simp [*]; done)), H', ⟨Nat.le_refl _⟩, ⟨by (with_reducible repeat (first | apply Kd.R_alloc | apply Kd.R_drewN | apply Kd.R_drew)); exact HO309.out⟩, ⟨by repeat (first | (with_reducible first | exact HB.out | apply below_alloc | apply pw_below_drewN | apply below_drew1) | exact HB.out)⟩⟩
      case round =>
        clear H'
        try clear c1
        try clear p2
        try clear c4
        try clear c4b0
        try clear c4b1
        try clear c5
        try clear c5b0
        try clear c5b1
        try clear p6
        obtain ⟨x5_1, x17_1, rfl, HA, HK1, HO_5, HB⟩ := hrel
        cases gk with
        | zero => exact absurd HA.out (by simp [psephosref01_shifted.l0])
        | succ k1 =>
          have H := HA.out
          clear HA
          simp only [psephosref01_shifted.l0] at H
          by_cases c8 : x17_1 < (l0.length : Int)
          · rw [if_pos c8] at H
            have c8b0 : decide (x17_1 < (l0.length : Int)) = true := decide_eq_true c8
            clear c8
            by_cases c9 : 0 ≤ x17_1
            · rw [if_pos c9] at H
              have c9b0 : decide (0 ≤ x17_1) = true := decide_eq_true c9
              clear c9
              by_cases c10 : x17_1 < (l0.length : Int)
              · rw [if_pos c10] at H
                have c10b0 : decide (x17_1 < (l0.length : Int)) = true := decide_eq_true c10
                clear c10
                obtain ⟨ji11, hji11⟩ : ∃ j_ : Int, (IntKind.u64.wrap (Int.tmod a1 32)) = j_ := ⟨_, rfl⟩
                replace H : (if 0 ≤ (ji11) then (if 0 ≤ (wrap64 (x17_1 + (wrap64 (Int.tdiv a1 32)))) then (if (wrap64 (x17_1 + (wrap64 (Int.tdiv a1 32)))) < (x5_1.length : Int) then (if 0 ≤ (wrap64 ((wrap64 (x17_1 + (wrap64 (Int.tdiv a1 32)))) + 1)) then (if (wrap64 ((wrap64 (x17_1 + (wrap64 (Int.tdiv a1 32)))) + 1)) < (x5_1.length : Int) then (psephosref01_shifted.l0 k1 l0 a1 ((x5_1.set ((wrap64 (x17_1 + (wrap64 (Int.tdiv a1 32)))) : Int).toNat (Go.bits .or .u32 (rd x5_1 (wrap64 (x17_1 + (wrap64 (Int.tdiv a1 32))))) ((shl .u64 (IntKind.u64.wrap (rd l0 x17_1)) (ji11)) % 4294967296))).set ((wrap64 ((wrap64 (x17_1 + (wrap64 (Int.tdiv a1 32)))) + 1)) : Int).toNat (((shl .u64 (IntKind.u64.wrap (rd l0 x17_1)) (ji11)) / 4294967296) % 4294967296)) (l0.length : Int) (wrap64 (x17_1 + 1))) else (none)) else (none)) else (none)) else (none)) else (none)) = some r := by first | (rw [hji11] at H; exact H) | (simp only [hji11] at H ⊢; exact H)
                by_cases c12 : 0 ≤ (ji11)
                · rw [if_pos c12] at H
                  have c12b0 := eq_true c12
                  have c12b1 : decide (0 ≤ (ji11)) = true := decide_eq_true c12
                  clear c12
                  obtain ⟨ji13, hji13⟩ : ∃ j_ : Int, (shl .u64 (IntKind.u64.wrap (rd l0 x17_1)) (ji11)) = j_ := ⟨_, rfl⟩
                  replace H : (if 0 ≤ (wrap64 (x17_1 + (wrap64 (Int.tdiv a1 32)))) then (if (wrap64 (x17_1 + (wrap64 (Int.tdiv a1 32)))) < (x5_1.length : Int) then (if 0 ≤ (wrap64 ((wrap64 (x17_1 + (wrap64 (Int.tdiv a1 32)))) + 1)) then (if (wrap64 ((wrap64 (x17_1 + (wrap64 (Int.tdiv a1 32)))) + 1)) < (x5_1.length : Int) then (psephosref01_shifted.l0 k1 l0 a1 ((x5_1.set ((wrap64 (x17_1 + (wrap64 (Int.tdiv a1 32)))) : Int).toNat (Go.bits .or .u32 (rd x5_1 (wrap64 (x17_1 + (wrap64 (Int.tdiv a1 32))))) ((ji13) % 4294967296))).set ((wrap64 ((wrap64 (x17_1 + (wrap64 (Int.tdiv a1 32)))) + 1)) : Int).toNat (((ji13) / 4294967296) % 4294967296)) (l0.length : Int) (wrap64 (x17_1 + 1))) else (none)) else (none)) else (none)) else (none)) = some r := by first | (rw [hji13] at H; exact H) | (simp only [hji13] at H ⊢; exact H)
                  have hji13_ : (IntKind.u64.wrap ((IntKind.u64.wrap (rd l0 x17_1)) * 2 ^ min (ji11).toNat 64)) = ji13 := hji13
                  have hji13z : (ji11) ≤ 64 → (IntKind.u64.wrap ((IntKind.u64.wrap (rd l0 x17_1)) * 2 ^ (ji11).toNat)) = ji13 := shl_small hji13
                  obtain ⟨ji14, hji14⟩ : ∃ j_ : Int, (wrap64 (x17_1 + (wrap64 (Int.tdiv a1 32)))) = j_ := ⟨_, rfl⟩
                  replace H : (if 0 ≤ (ji14) then (if (ji14) < (x5_1.length : Int) then (if 0 ≤ (wrap64 ((ji14) + 1)) then (if (wrap64 ((ji14) + 1)) < (x5_1.length : Int) then (psephosref01_shifted.l0 k1 l0 a1 ((x5_1.set ((ji14) : Int).toNat (Go.bits .or .u32 (rd x5_1 (ji14)) ((ji13) % 4294967296))).set ((wrap64 ((ji14) + 1)) : Int).toNat (((ji13) / 4294967296) % 4294967296)) (l0.length : Int) (wrap64 (x17_1 + 1))) else (none)) else (none)) else (none)) else (none)) = some r := by first | (rw [hji14] at H; exact H) | (simp only [hji14] at H ⊢; exact H)
                  have hji14w : (IntKind.i64.wrap (x17_1 + (wrap64 (Int.tdiv a1 32)))) = ji14 := (i64_w _).trans hji14
                  by_cases c15 : 0 ≤ (ji14)
                  · rw [if_pos c15] at H
                    have c15b0 : decide (0 ≤ (ji14)) = true := decide_eq_true c15
                    clear c15
                    by_cases c16 : (ji14) < (x5_1.length : Int)
                    · rw [if_pos c16] at H
                      have c16b0 : decide ((ji14) < (x5_1.length : Int)) = true := decide_eq_true c16
                      clear c16
                      obtain ⟨y312, hy312⟩ : ∃ y_ : List Int, y_ = (x5_1.set ((ji14) : Int).toNat (Go.bits .or .u32 (rd x5_1 (ji14)) ((ji13) % 4294967296))) := ⟨_, rfl⟩
                      replace H : (if 0 ≤ (wrap64 ((ji14) + 1)) then (if (wrap64 ((ji14) + 1)) < (x5_1.length : Int) then (psephosref01_shifted.l0 k1 l0 a1 (y312.set ((wrap64 ((ji14) + 1)) : Int).toNat (((ji13) / 4294967296) % 4294967296)) (l0.length : Int) (wrap64 (x17_1 + 1))) else (none)) else (none)) = some r := by first | (rw [hy312]; with_reducible exact H) | (have H2_ := (Option.bind_some _ _).symm.trans H; rw [hy312]; with_reducible exact H2_) | (have H2_ := (Option.bind_some _ _).symm.trans H; with_reducible exact H2_) | with_reducible exact H | (rw [hy312]; exact H) | exact H
                      have Ny312 := Aside0.mk hy312
                      clear hy312
                      obtain ⟨ji18, hji18⟩ : ∃ j_ : Int, (wrap64 ((ji14) + 1)) = j_ := ⟨_, rfl⟩
                      replace H : (if 0 ≤ (ji18) then (if (ji18) < (x5_1.length : Int) then (psephosref01_shifted.l0 k1 l0 a1 (y312.set ((ji18) : Int).toNat (((ji13) / 4294967296) % 4294967296)) (l0.length : Int) (wrap64 (x17_1 + 1))) else (none)) else (none)) = some r := by first | (rw [hji18] at H; exact H) | (simp only [hji18] at H ⊢; exact H)
                      have hji18w : (IntKind.i64.wrap ((ji14) + 1)) = ji18 := (i64_w _).trans hji18
                      by_cases c19 : 0 ≤ (ji18)
                      · rw [if_pos c19] at H
                        have c19b0 : decide (0 ≤ (ji18)) = true := decide_eq_true c19
                        clear c19
                        by_cases c20 : (ji18) < (x5_1.length : Int)
                        · rw [if_pos c20] at H
                          have c20b0 : decide ((ji18) < (x5_1.length : Int)) = true := decide_eq_true c20
                          clear c20
                          obtain ⟨y313, hy313⟩ : ∃ y_ : List Int, y_ = (y312.set ((ji18) : Int).toNat (((ji13) / 4294967296) % 4294967296)) := ⟨_, rfl⟩
                          replace H : (psephosref01_shifted.l0 k1 l0 a1 y313 (l0.length : Int) (wrap64 (x17_1 + 1))) = some r := by first | (rw [hy313]; with_reducible exact H) | (have H2_ := (Option.bind_some _ _).symm.trans H; rw [hy313]; with_reducible exact H2_) | (have H2_ := (Option.bind_some _ _).symm.trans H; with_reducible exact H2_) | with_reducible exact H | (rw [hy313]; exact H) | exact H
                          have Ny313 := Aside0.mk hy313
                          clear hy313
                          have H' := Aside0.mk H
                          clear H
                          have p310 : 0 ≤ (x17_1 : Int) := of_decide_eq_true (by first | (with_reducible assumption) | assumption)
                          have q310 : x17_1 < (l0.length : Int) := of_decide_eq_true (by first | (with_reducible assumption) | assumption)
                          obtain ⟨ad310, e310, hx310_0⟩ := Kd.at_int HR0.out x17_1 p310 q310
                          cases e310
                          replace hx310_0 := (HB.out.cell (World.block_lt_of_cell? w _ hx310_0)).trans hx310_0
                          replace p310 := eq_true p310
                          replace q310 := eq_true q310
                          obtain ⟨Ao22, co22, eo22⟩ := Kd.R_slice HO_5.out
                          subst eo22
                          have p311 : 0 ≤ ((ji14) : Int) := of_decide_eq_true (by first | (with_reducible assumption) | assumption)
                          have q311 : (ji14) < (x5_1.length : Int) := of_decide_eq_true (by first | (with_reducible assumption) | assumption)
                          obtain ⟨ad311, e311, hx311_0⟩ := Kd.at_int (Kd.R_reads' HO_5.out).2.2 (ji14) p311 q311
                          cases e311
                          replace p311 := eq_true p311
                          replace q311 := eq_true q311
                          have p17 : 0 ≤ ((ji14) : Int) := of_decide_eq_true (by first | (with_reducible assumption) | assumption)
                          have q17 : ((ji14) : Int) < ((x5_1.length : Int) : Int) := of_decide_eq_true (by first | (with_reducible assumption) | assumption)
                          obtain ⟨go17, co17, eo17, gb17, gl17, cl17, HG17⟩ := Kd.R_form HO_5.out (by omega)
                          (first | cases eo17 | (injection eo17 with ea_ en_ ec_; (first | subst ea_ | (injection ea_ with ea_; subst ea_)); subst ec_; clear en_))
                          have GB17 := Aside0.mk gb17
                          have GG17 := Aside0.mk HG17
                          clear gb17 gl17 HG17
                          (first | simp only [add_plain] at hx311_0 | skip)
                          obtain ⟨hx17_0, hf17_0⟩ := Kd.R_celln 0 HO_5.out ((ji14) : Int) p17 q17
                          replace p17 := eq_true p17
                          replace q17 := eq_true q17
                          have HP23 := Kd.R_putg HO_5.out ((ji14) : Int) (Go.bits .or .u32 (rd x5_1 (ji14)) ((ji13) % 4294967296))
                          go_wp2_with (first | ((with_reducible refine gate_store (t := 64) (p := 44) rfl ?_); refine store_event (t := 64) (p := 44) (v := ?vo_w24) (w1 := (wr.setCell ⟨go17, ((ji14) : Int).toNat, none⟩ (.int .u32 (Go.bits .or .u32 (rd x5_1 (ji14)) ((ji13) % 4294967296))))) ?hg ?ho ?hn ?hr ?_; (case ho => rfl); (case hg => rfl); (case hn => rfl); (case hr => first | (go_simp; done) | (go_simp; rfl)); intro w24 hw; have hg : wr.grownBy w24 (some go17) := (by rw [hw]; exact HP23.2); have hp_ : Kd.R (Kd.int .u32) 64 w24 w.heap.size (fun _ => True) (.slice (some ⟨go17, 0, none⟩) x5_1.length co22) y312 := (by rw [hw, Ny312.out]; exact HP23.1); clear HP23; have n0_ := Aside0.mk (hp_); have n1_ := Aside0.mk ((by rw [hw]; exact below_set (HB.out) GB17.out : Below w.heap.size w w24)); clear HO_5; clear HB; have HO_5 := n0_; have HB := n1_; clear n0_ n1_; clear hg hw hp_; have p21 : 0 ≤ ((ji18) : Int) := of_decide_eq_true (by first | (with_reducible assumption) | assumption); have q21 : ((ji18) : Int) < ((x5_1.length : Int) : Int) := of_decide_eq_true (by first | (with_reducible assumption) | assumption); obtain ⟨hx21_0, hf21_0⟩ := Kd.R_celln 0 HO_5.out ((ji18) : Int) p21 q21; replace p21 := eq_true p21; replace q21 := eq_true q21; obtain ⟨hy25_, hz25_⟩ := Kd.R_celln 0 HO_5.out ((ji18) : Int) (of_decide_eq_true (by first | (with_reducible assumption) | assumption)) (of_decide_eq_true (by first | (with_reducible assumption) | assumption)); have HP25 := Kd.R_putg HO_5.out ((ji18) : Int) (((ji13) / 4294967296) % 4294967296)) | ((with_reducible refine gate_store (t := 64) (p := 54) rfl ?_); refine store_event (t := 64) (p := 54) (v := ?vo_w26) (w1 := (w24.setCell ⟨go17, ((ji18) : Int).toNat, none⟩ (.int .u32 (((ji13) / 4294967296) % 4294967296)))) ?hg ?ho ?hn ?hr ?_; (case ho => rfl); (case hg => rfl); (case hn => rfl); (case hr => first | (go_simp; done) | (go_simp; rfl)); intro w26 hw; have hg : w24.grownBy w26 (some go17) := (by rw [hw]; exact HP25.2); have hp_ : Kd.R (Kd.int .u32) 64 w26 w.heap.size (fun _ => True) (.slice (some ⟨go17, 0, none⟩) x5_1.length co22) y313 := (by rw [hw, Ny313.out]; exact HP25.1); clear HP25; have n0_ := Aside0.mk (hp_); have n1_ := Aside0.mk ((by rw [hw]; exact below_set (HB.out) GB17.out : Below w.heap.size w w26)); clear HO_5; clear HB; have HO_5 := n0_; have HB := n1_; clear n0_ n1_; clear hg hw hp_))
                          go_roundg k1
                          case measure => have := HK1.out; omega
                          case rel => exact ⟨(y313), (wrap64 (x17_1 + 1)), (by first | rfl | (simp; done) | (simp [*]; done)), H', ⟨by have := HK1.out; omega⟩, ⟨by (with_reducible repeat (first | apply Kd.R_alloc | apply Kd.R_drewN | apply Kd.R_drew)); exact HO_5.out⟩, ⟨by repeat (first | (with_reducible first | exact HB.out | apply below_alloc | apply pw_below_drewN | apply below_drew1) | exact HB.out)⟩⟩
                        · rw [if_neg c20] at H
                          exact absurd H (by simp)
                      · rw [if_neg c19] at H
                        exact absurd H (by simp)
                    · rw [if_neg c16] at H
                      exact absurd H (by simp)
                  · rw [if_neg c15] at H
                    exact absurd H (by simp)
                · rw [if_neg c12] at H
                  exact absurd H (by simp)
              · rw [if_neg c10] at H
                exact absurd H (by simp)
            · rw [if_neg c9] at H
              exact absurd H (by simp)
          · rw [if_neg c8] at H
            have c8b0 : decide (x17_1 < (l0.length : Int)) = false := decide_eq_false c8
            clear c8
            replace H := Option.bind_eq_some_iff.mp H
            obtain ⟨t314, A270, H⟩ := H
            replace H : (some t314) = some r := H
            have A27 := Aside0.mk A270
            clear A270
            obtain rfl := Option.some.inj H
            obtain ⟨Ao28, co28, eo28⟩ := Kd.R_slice HO_5.out
            subst eo28
            go_wp2_with (first | ((with_reducible refine gate_callee (f := 107) rfl ?_); refine goesL_ (some 57) rfl rfl Try.func107 (by kernel_rfl) rfl #[.slice Ao28 x5_1.length co28] rfl (by (try simp only [List.map_toArray, List.map_cons, List.map_nil]); first | done | rfl | (simp only [List.length_drop, List.length_take]; rfl)) ?_; (with_reducible refine (psephosref01_trim.calls k1 _ _ x5_1 t314 _ ?side1 ?side2 A27.out).mono ?_); (case side1 => repeat (first | exact (Kd.R_reads' HO_5.out).2.2 | (with_reducible refine Kd.C_alloc ?_ _) | (with_reducible refine Kd.C_drewN ?_ _) | (with_reducible refine Kd.C_drew ?_))); (case side2 => exact (Kd.R_reads' HO_5.out).2.1); rintro e w29 ⟨v315, rfl, ho0, hb⟩; refine ⟨_, rfl, ?_⟩; have n0_ := Aside0.mk (Kd.R_elder' (by (with_reducible repeat (first | apply Kd.R_alloc | apply Kd.R_drewN | apply Kd.R_drew)); exact HO_5.out) (Kd.R_base ho0) hb); have n1_ := Aside0.mk (Kd.R_lower (Kd.R_new' ho0 (Kd.R_lt (by (with_reducible repeat (first | apply Kd.R_alloc | apply Kd.R_drewN | apply Kd.R_drew)); exact HO_5.out))) (below_size (by repeat (first | (with_reducible first | exact HB.out | apply below_alloc | apply pw_below_drewN | apply below_drew1) | exact HB.out)))); have n2_ := Aside0.mk (below_step (by repeat (first | (with_reducible first | exact HB.out | apply below_alloc | apply pw_below_drewN | apply below_drew1) | exact HB.out)) hb); clear HO_5; clear HB; have HO_5 := n0_; have HO316 := n1_; have HB := n2_; clear n0_ n1_ n2_; (try clear hb); (try clear hb2); (try clear hk); (try clear hi); (try clear ho0)))
            go_ret
            exact ⟨_, by first | rfl | (simp [errW_none, errW_some] <;> rfl) | (simp only [← hji3]; first | rfl | (simp [errW_none, errW_some] <;> rfl)) | (simp [*, errW_none, errW_some] <;> rfl), by (with_reducible repeat (first | apply Kd.R_alloc | apply Kd.R_drewN | apply Kd.R_drew)); exact Kd.R_mono HO316.out (fun _ hk => trivial), by repeat (first | (with_reducible first | exact HB.out | apply below_alloc | apply pw_below_drewN | apply below_drew1) | exact HB.out)⟩
    · rw [if_neg c5] at H
      exact absurd H (by simp)
  · rw [if_neg c4] at H
    exact absurd H (by simp)

end Go.Proofs.Ytbfcmjaomkdpgaa.PRatioForms
