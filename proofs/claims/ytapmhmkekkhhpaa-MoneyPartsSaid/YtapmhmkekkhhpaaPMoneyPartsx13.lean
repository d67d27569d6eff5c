-- Written by pr.py (wip/tools), a program of this session, over the kit's printer.
import Derived.Test.YtapmhmkekkhhpaaPMoneyPartsx0
import Derived.Test.YtapmhmkekkhhpaaPMoneyPartsx1
import Derived.Test.YtapmhmkekkhhpaaPMoneyPartsx8
import Derived.Test.YtapmhmkekkhhpaaPMoneyPartsx9
import Derived.Test.YtapmhmkekkhhpaaPMoneyPartsx12
namespace Go.Proofs.Ytapmhmkekkhhpaa.PMoneyParts
open Go.RowKit Go.Proofs.YtapmhmkekkhhpaaW.PrintWords Go.Proofs.YtapmhmkekkhhpaaW.PrintLast Go.Proofs.YtapmhmkekkhhpaaW.PrintMore
attribute [local go_sem] max2_int min2_int max_two min_two max_three min_three max_four min_four   -- for this text's walks alone
set_option linter.unusedVariables false
set_option linter.unusedSimpArgs false

/-! ### psephosref01_Low: function 24 -/
mutual
def psephosref01_Low.j0 : Nat → List Int → Bool → Option (Int × Bool)
  | 0, _, _ => none
  | k + 1, x0, x13 => if x13 = true then (some (0, false)) else (psephosref01_Low.l0 k x0 0 (wrap64 ((x0.length : Int) - 1)))
def psephosref01_Low.l0 : Nat → List Int → Int → Int → Option (Int × Bool)
  | 0, _, _, _ => none
  | k + 1, x0, x4, x5 => if x5 ≥ 0 then (if 0 ≤ x5 then (if x5 < (x0.length : Int) then (psephosref01_Low.l0 k x0 (Go.bits .or .u64 (IntKind.u64.wrap (x4 * 4294967296)) (IntKind.u64.wrap (rd x0 x5))) (wrap64 (x5 - 1))) else (none)) else (none)) else (some (x4, true))
end
def psephosref01_Low.f (k : Nat) (l0 : List Int) : Option (Int × Bool) := if (l0.length : Int) > 2 then (psephosref01_Low.j0 k l0 true) else ((psephosref01_Formed.f l0).bind fun t406 => (psephosref01_Low.j0 k l0 (!t406)))
theorem psephosref01_Low.mono_l : ∀ k, (∀ y0 y1, LeO (psephosref01_Low.j0 k y0 y1) (psephosref01_Low.j0 (k + 1) y0 y1)) ∧ (∀ y0 y1 y2, LeO (psephosref01_Low.l0 k y0 y1 y2) (psephosref01_Low.l0 (k + 1) y0 y1 y2))
  | 0 => ⟨fun _ _ r h => by simp [psephosref01_Low.j0] at h, fun _ _ _ r h => by simp [psephosref01_Low.l0] at h⟩
  | k + 1 => by
    obtain ⟨ih0, ih1⟩ := psephosref01_Low.mono_l k
    refine ⟨?_, ?_⟩
    · intro y0 y1
      unfold psephosref01_Low.j0
      repeat' first
      | (with_reducible exact ih0 _ _)
      | (with_reducible exact ih1 _ _ _)
      | (with_reducible exact LeO.refl _)
      | (with_reducible exact LeO.none _)
      | (with_reducible refine LeO.ite ?_ ?_)
      | (with_reducible refine LeO.bind ?_ (fun _ => ?_))
      | exact ih0 _ _
      | exact ih1 _ _ _
      | exact LeO.none _
      | refine LeO.ite ?_ ?_
      | refine LeO.bind ?_ (fun _ => ?_)
    · intro y0 y1 y2
      unfold psephosref01_Low.l0
      repeat' first
      | (with_reducible exact ih0 _ _)
      | (with_reducible exact ih1 _ _ _)
      | (with_reducible exact LeO.refl _)
      | (with_reducible exact LeO.none _)
      | (with_reducible refine LeO.ite ?_ ?_)
      | (with_reducible refine LeO.bind ?_ (fun _ => ?_))
      | exact ih0 _ _
      | exact ih1 _ _ _
      | exact LeO.none _
      | refine LeO.ite ?_ ?_
      | refine LeO.bind ?_ (fun _ => ?_)
theorem psephosref01_Low.mono : ∀ a0 k, LeO (psephosref01_Low.f k a0) (psephosref01_Low.f (k + 1) a0) := by
  intro a0 k
  obtain ⟨ih0, ih1⟩ := psephosref01_Low.mono_l k
  unfold psephosref01_Low.f
  repeat' first
      | (with_reducible exact ih0 _ _)
      | (with_reducible exact ih1 _ _ _)
      | (with_reducible exact LeO.refl _)
      | (with_reducible exact LeO.none _)
      | (with_reducible refine LeO.ite ?_ ?_)
      | (with_reducible refine LeO.bind ?_ (fun _ => ?_))
      | exact ih0 _ _
      | exact ih1 _ _ _
      | exact LeO.none _
      | refine LeO.ite ?_ ?_
      | refine LeO.bind ?_ (fun _ => ?_)
set_option maxHeartbeats 8000000 in
set_option maxRecDepth 100000 in
theorem psephosref01_Low.calls (k : Nat) (A0 : Option Addr) (c0 : Nat) (l0 : List Int) (r1 : Int) (r2 : Bool) (w : World) (hr0 : Kd.C (Kd.int .u32) w A0 l0.length l0) (hc0 : l0.length ≤ c0) (h : psephosref01_Low.f k l0 = some (r1, r2)) :
    Calls Try.prog 24 #[.slice A0 l0.length c0] w fun e w' => e = .returned (.tuple #[.int .u64 r1, .bool r2]) ∧ Drawn0 w w' := by
  have HR0 := Aside0.mk hr0
  have HC0 := Aside0.mk hc0
  clear hr0 hc0
  have H : (if (l0.length : Int) > 2 then (psephosref01_Low.j0 k l0 true) else ((psephosref01_Formed.f l0).bind fun t406 => (psephosref01_Low.j0 k l0 (!t406)))) = some (r1, r2) := h
  clear h
  have HC2 := Aside0.mk H
  clear H
  go_enter Try.func24, Try.ntmps24
  go_upto_region 1 with (fail)
  go_cut [13] (fun v13 wc => ∃ (kq : Nat) (x13_1 : Bool), v13 = .bool x13_1 ∧ Aside0 (psephosref01_Low.j0 kq l0 x13_1 = some (r1, r2)) ∧ Aside0 (kq ≤ k) ∧ Drawn0 w wc)
  case first =>
    have H := HC2.out
    clear HC2
    by_cases c3 : (l0.length : Int) > 2
    · rw [if_pos c3] at H
      have c3b0 : decide (2 < (l0.length : Int)) = true := decide_eq_true c3
      have c3b1 : decide (2 < l0.length) = true := decide_eq_true (by omega)
      clear c3
      (first | rw [c3b0] | (simp only [i64_w, i32_w]; rw [c3b0]) | rw [c3b1] | skip)
      have H' := Aside0.mk H
      clear H
      go_wp2
      go_meet
      case rel => exact ⟨_, (true), (by first | rfl | (simp; done) | (simp [*]; done)), H', ⟨by first | omega | exact Nat.le_refl _⟩, by repeat (first | exact Drawn0.refl _ | apply Drawn0.step)⟩
    · rw [if_neg c3] at H
      have c3b0 : decide (2 < (l0.length : Int)) = false := decide_eq_false c3
      have c3b1 : decide (2 < l0.length) = false := decide_eq_false (by omega)
      clear c3
      (first | rw [c3b0] | (simp only [i64_w, i32_w]; rw [c3b0]) | rw [c3b1] | skip)
      replace H := Option.bind_eq_some_iff.mp H
      obtain ⟨t406, A40, H⟩ := H
      replace H : (psephosref01_Low.j0 k l0 (!t406)) = some (r1, r2) := H
      have A4 := Aside0.mk A40
      clear A40
      have H' := Aside0.mk H
      clear H
      go_wp2_with (first | (go_at_call 26; (with_reducible refine (psephosref01_Formed.calls _ _ l0 t406 _ ?side1 ?side2 A4.out).mono ?_); (case side1 => repeat (first | exact HR0.out | (with_reducible refine Kd.C_alloc ?_ _) | (with_reducible refine Kd.C_drewN ?_ _) | (with_reducible refine Kd.C_drew ?_))); (case side2 => exact HC0.out); rintro e w' ⟨rfl, ⟨nd, rfl⟩⟩))
      go_meet
      case rel => exact ⟨_, (!t406), (by first | rfl | (simp; done) | (simp [*]; done)), H', ⟨by first | omega | exact Nat.le_refl _⟩, by repeat (first | exact Drawn0.refl _ | apply Drawn0.step)⟩
  case rest =>
    clear HC2
    try clear c2
    try clear p2
    try clear c3
    try clear c3b0
    try clear c3b1
    obtain ⟨kq, x13_1, rfl, HA, HJ1, ⟨mc1, rfl⟩⟩ := hcut
    cases kq with
    | zero => exact absurd HA.out (by simp [psephosref01_Low.j0])
    | succ kj1 =>
      have H := HA.out
      clear HA
      simp only [psephosref01_Low.j0] at H
      by_cases c5 : x13_1 = true
      · subst c5
        have H1 : (some (0, false)) = some (r1, r2) := by rw [if_pos rfl] at H; exact H
        clear H
        have H := H1
        clear H1
        simp only [Option.some.injEq, Prod.mk.injEq] at H
        obtain ⟨rfl, rfl⟩ := H
        go_wp2
        go_ret2
        exact ⟨by first | rfl | (simp; done) | (simp [*]; done), by repeat (first | exact Drawn0.refl _ | apply Drawn0.step)⟩
      · replace c5 := Bool.eq_false_iff.mpr c5
        subst c5
        have H1 : (psephosref01_Low.l0 kj1 l0 0 (wrap64 ((l0.length : Int) - 1))) = some (r1, r2) := by rw [if_neg (show ¬ (false = true) by decide)] at H; exact H
        clear H
        have H := H1
        clear H1
        have H' := Aside0.mk H
        clear H
        go_wp2
        go_loopg [4, 5] kj1 (fun kq v4 v5 w' => ∃ (x4_2 : Int) (x5_2 : Int), v4 = .int .u64 x4_2 ∧ v5 = .int .i64 x5_2 ∧ Aside0 (psephosref01_Low.l0 kq l0 x4_2 x5_2 = some (r1, r2)) ∧ Aside0 (kq ≤ kj1) ∧ Drawn0 w w')
        case atStart => exact ⟨(0), (wrap64 ((l0.length : Int) - 1)), (by first | rfl | (simp; done) | (simp [*]; done)), (by first | rfl | (simp; done) | (simp [*]; done)), H', ⟨Nat.le_refl _⟩, by repeat (first | exact Drawn0.refl _ | apply Drawn0.step)⟩
        case round =>
          clear H'
          try clear c1
          try clear c2
          try clear p2
          try clear c3
          try clear c3b0
          try clear c3b1
          try clear c5
          try clear p2
          obtain ⟨x4_2, x5_2, rfl, rfl, HA, HK2, ⟨m2, rfl⟩⟩ := hrel
          cases gk with
          | zero => exact absurd HA.out (by simp [psephosref01_Low.l0])
          | succ k2 =>
            have H := HA.out
            clear HA
            simp only [psephosref01_Low.l0] at H
            by_cases c6 : x5_2 ≥ 0
            · rw [if_pos c6] at H
              have c6b0 : decide (0 ≤ x5_2) = true := decide_eq_true c6
              clear c6
              by_cases c7 : 0 ≤ x5_2
              · rw [if_pos c7] at H
                have c7b0 : decide (0 ≤ x5_2) = true := decide_eq_true c7
                clear c7
                by_cases c8 : x5_2 < (l0.length : Int)
                · rw [if_pos c8] at H
                  have c8b0 : decide (x5_2 < (l0.length : Int)) = true := decide_eq_true c8
                  clear c8
                  have H' := Aside0.mk H
                  clear H
                  have p407 : 0 ≤ (x5_2 : Int) := of_decide_eq_true (by first | (with_reducible assumption) | assumption)
                  have q407 : x5_2 < (l0.length : Int) := of_decide_eq_true (by first | (with_reducible assumption) | assumption)
                  obtain ⟨ad407, e407, hx407_0⟩ := Kd.at_int HR0.out x5_2 p407 q407
                  cases e407
                  replace p407 := eq_true p407
                  replace q407 := eq_true q407
                  go_wp2
                  go_roundg k2
                  case measure => have := HJ1.out; have := HK2.out; omega
                  case rel => exact ⟨(Go.bits .or .u64 (IntKind.u64.wrap (x4_2 * 4294967296)) (IntKind.u64.wrap (rd l0 x5_2))), (wrap64 (x5_2 - 1)), (by first | rfl | (simp; done) | (simp [*]; done)), (by first | rfl | (simp; done) | (simp [*]; done)), H', ⟨by have := HJ1.out; have := HK2.out; omega⟩, by repeat (first | exact Drawn0.refl _ | apply Drawn0.step)⟩
                · rw [if_neg c8] at H
                  exact absurd H (by simp)
              · rw [if_neg c7] at H
                exact absurd H (by simp)
            · rw [if_neg c6] at H
              have c6b0 : decide (0 ≤ x5_2) = false := decide_eq_false c6
              clear c6
              simp only [Option.some.injEq, Prod.mk.injEq] at H
              obtain ⟨rfl, rfl⟩ := H
              go_wp2
              go_ret2
              exact ⟨by first | rfl | (simp; done) | (simp [*]; done), by repeat (first | exact Drawn0.refl _ | apply Drawn0.step)⟩

/-! ### psephosref03_Part: function 43 -/
def psephosref03_Part.f (k : Nat) (a0 : Int) (a1 : Int) (a2 : Int) : Option (Int × Int) := if a2 = 0 then (some (0, 5)) else ((psephosref01_Of.f k a0).bind fun t408 => ((psephosref01_Of.f k a1).bind fun t411 => ((psephosref01_Mul.f k t408 t411).bind fun bt414 => ((psephosref01_Of.f k a2).bind fun t418 => ((psephosref01_DivMod.f k bt414.1 t418).bind fun bt421 => ((psephosref01_Low.f k bt421.1).bind fun bt428 => (if bt428.2 = true then (some (bt428.1, 0)) else (some (0, 3)))))))))
theorem psephosref03_Part.mono : ∀ a0 a1 a2 k, LeO (psephosref03_Part.f k a0 a1 a2) (psephosref03_Part.f (k + 1) a0 a1 a2) := by
  intro a0 a1 a2 k
  unfold psephosref03_Part.f
  repeat' first
      | (with_reducible exact psephosref01_DivMod.mono _ _ _)
      | (with_reducible exact psephosref01_Low.mono _ _)
      | (with_reducible exact psephosref01_Mul.mono _ _ _)
      | (with_reducible exact psephosref01_Of.mono _ _)
      | (with_reducible exact LeO.refl _)
      | (with_reducible exact LeO.none _)
      | (with_reducible refine LeO.ite ?_ ?_)
      | (with_reducible refine LeO.bind ?_ (fun _ => ?_))
      | exact psephosref01_DivMod.mono _ _ _
      | exact psephosref01_Low.mono _ _
      | exact psephosref01_Mul.mono _ _ _
      | exact psephosref01_Of.mono _ _
      | exact LeO.none _
      | refine LeO.ite ?_ ?_
      | refine LeO.bind ?_ (fun _ => ?_)
set_option maxHeartbeats 8000000 in
set_option maxRecDepth 100000 in
theorem psephosref03_Part.calls (k : Nat) (a0 : Int) (a1 : Int) (a2 : Int) (r1 : Int) (r2 : Int) (w : World) (h : psephosref03_Part.f k a0 a1 a2 = some (r1, r2)) :
    Calls Try.prog 43 #[.int .u64 a0, .int .u64 a1, .int .u64 a2] w fun e w' => e = .returned (.tuple #[.int .u64 r1, .int .i64 r2]) ∧ Below w.heap.size w w' := by
  have HB := Aside0.mk (Below.refl w.heap.size w)
  have H : (if a2 = 0 then (some (0, 5)) else ((psephosref01_Of.f k a0).bind fun t408 => ((psephosref01_Of.f k a1).bind fun t411 => ((psephosref01_Mul.f k t408 t411).bind fun bt414 => ((psephosref01_Of.f k a2).bind fun t418 => ((psephosref01_DivMod.f k bt414.1 t418).bind fun bt421 => ((psephosref01_Low.f k bt421.1).bind fun bt428 => (if bt428.2 = true then (some (bt428.1, 0)) else (some (0, 3)))))))))) = some (r1, r2) := h
  clear h
  by_cases c4 : a2 = 0
  · rw [if_pos c4] at H
    have c4b0 : (a2 == 0) = true := beq_iff_eq.mpr c4
    have c4b1 : (a2 != 0) = false := bne_eq_false_iff_eq.mpr c4
    clear c4
    simp only [Option.some.injEq, Prod.mk.injEq] at H
    obtain ⟨rfl, rfl⟩ := H
    go_enter Try.func43, Try.ntmps43
    go_wp2
    go_ret2
    exact ⟨by first | rfl | (simp [errW_none, errW_some] <;> rfl) | (simp [*, errW_none, errW_some] <;> rfl), by repeat (first | (with_reducible first | exact HB.out | apply below_alloc | apply pw_below_drewN | apply below_drew1) | exact HB.out)⟩
  · rw [if_neg c4] at H
    have c4b0 : (a2 == 0) = false := beq_eq_false_iff_ne.mpr c4
    have c4b1 : (a2 != 0) = true := bne_iff_ne.mpr c4
    replace H := Option.bind_eq_some_iff.mp H
    obtain ⟨t408, A50, H⟩ := H
    replace H : ((psephosref01_Of.f k a1).bind fun t411 => ((psephosref01_Mul.f k t408 t411).bind fun bt414 => ((psephosref01_Of.f k a2).bind fun t418 => ((psephosref01_DivMod.f k bt414.1 t418).bind fun bt421 => ((psephosref01_Low.f k bt421.1).bind fun bt428 => (if bt428.2 = true then (some (bt428.1, 0)) else (some (0, 3)))))))) = some (r1, r2) := H
    have A5 := Aside0.mk A50
    clear A50
    replace H := Option.bind_eq_some_iff.mp H
    obtain ⟨t411, A60, H⟩ := H
    replace H : ((psephosref01_Mul.f k t408 t411).bind fun bt414 => ((psephosref01_Of.f k a2).bind fun t418 => ((psephosref01_DivMod.f k bt414.1 t418).bind fun bt421 => ((psephosref01_Low.f k bt421.1).bind fun bt428 => (if bt428.2 = true then (some (bt428.1, 0)) else (some (0, 3))))))) = some (r1, r2) := H
    have A6 := Aside0.mk A60
    clear A60
    replace H := Option.bind_eq_some_iff.mp H
    obtain ⟨⟨t414, t417⟩, A70, H⟩ := H
    replace H : ((psephosref01_Of.f k a2).bind fun t418 => ((psephosref01_DivMod.f k t414 t418).bind fun bt421 => ((psephosref01_Low.f k bt421.1).bind fun bt428 => (if bt428.2 = true then (some (bt428.1, 0)) else (some (0, 3)))))) = some (r1, r2) := H
    have A7 := Aside0.mk A70
    clear A70
    replace H := Option.bind_eq_some_iff.mp H
    obtain ⟨t418, A80, H⟩ := H
    replace H : ((psephosref01_DivMod.f k t414 t418).bind fun bt421 => ((psephosref01_Low.f k bt421.1).bind fun bt428 => (if bt428.2 = true then (some (bt428.1, 0)) else (some (0, 3))))) = some (r1, r2) := H
    have A8 := Aside0.mk A80
    clear A80
    replace H := Option.bind_eq_some_iff.mp H
    obtain ⟨⟨t421, t422, t423⟩, A90, H⟩ := H
    replace H : ((psephosref01_Low.f k t421).bind fun bt428 => (if bt428.2 = true then (some (bt428.1, 0)) else (some (0, 3)))) = some (r1, r2) := H
    have A9 := Aside0.mk A90
    clear A90
    replace H := Option.bind_eq_some_iff.mp H
    obtain ⟨⟨t428, t429⟩, A100, H⟩ := H
    replace H : (if t429 = true then (some (t428, 0)) else (some (0, 3))) = some (r1, r2) := H
    have A10 := Aside0.mk A100
    clear A100
    by_cases c11 : t429 = true
    · subst c11
      have H1 : (some (t428, 0)) = some (r1, r2) := by rw [if_pos rfl] at H; exact H
      clear H
      have H := H1
      clear H1
      simp only [Option.some.injEq, Prod.mk.injEq] at H
      obtain ⟨rfl, rfl⟩ := H
      go_enter Try.func43, Try.ntmps43
      go_wp2_with (first | ((with_reducible refine gate_callee (f := 29) rfl ?_); refine goesL_ (some 19) rfl rfl Try.func29 (by kernel_rfl) rfl #[.int .u64 a0] rfl (by (try simp only [List.map_toArray, List.map_cons, List.map_nil]); first | done | rfl | (simp only [List.length_drop, List.length_take]; rfl)) ?_; (with_reducible refine (psephosref01_Of.calls k a0 t408 _ A5.out).mono ?_); rintro e w12 ⟨v409, rfl, ho0, hb⟩; refine ⟨_, rfl, ?_⟩; have n0_ := Aside0.mk (Kd.R_lower ho0 (below_size (by repeat (first | (with_reducible first | exact HB.out | apply below_alloc | apply pw_below_drewN | apply below_drew1) | exact HB.out)))); have n1_ := Aside0.mk (below_step (by repeat (first | (with_reducible first | exact HB.out | apply below_alloc | apply pw_below_drewN | apply below_drew1) | exact HB.out)) hb); clear HB; have HO410 := n0_; have HB := n1_; clear n0_ n1_; (try clear hb); (try clear hb2); (try clear hk); (try clear hi); (try clear ho0)) | ((with_reducible refine gate_callee (f := 29) rfl ?_); refine goesL_ (some 21) rfl rfl Try.func29 (by kernel_rfl) rfl #[.int .u64 a1] rfl (by (try simp only [List.map_toArray, List.map_cons, List.map_nil]); first | done | rfl | (simp only [List.length_drop, List.length_take]; rfl)) ?_; (with_reducible refine (psephosref01_Of.calls k a1 t411 _ A6.out).mono ?_); rintro e w13 ⟨v412, rfl, ho0, hb⟩; refine ⟨_, rfl, ?_⟩; have n0_ := Aside0.mk (Kd.R_elder' (by (with_reducible repeat (first | apply Kd.R_alloc | apply Kd.R_drewN | apply Kd.R_drew)); exact HO410.out) (Kd.R_base ho0) hb); have n1_ := Aside0.mk (Kd.R_lower (Kd.R_new' ho0 (Kd.R_lt (by (with_reducible repeat (first | apply Kd.R_alloc | apply Kd.R_drewN | apply Kd.R_drew)); exact HO410.out))) (below_size (by repeat (first | (with_reducible first | exact HB.out | apply below_alloc | apply pw_below_drewN | apply below_drew1) | exact HB.out)))); have n2_ := Aside0.mk (below_step (by repeat (first | (with_reducible first | exact HB.out | apply below_alloc | apply pw_below_drewN | apply below_drew1) | exact HB.out)) hb); clear HO410; clear HB; have HO410 := n0_; have HO413 := n1_; have HB := n2_; clear n0_ n1_ n2_; (try clear hb); (try clear hb2); (try clear hk); (try clear hi); (try clear ho0); obtain ⟨Ao14, co14, eo14⟩ := Kd.R_slice HO410.out; subst eo14; obtain ⟨Ao15, co15, eo15⟩ := Kd.R_slice HO413.out; subst eo15) | ((with_reducible refine gate_callee (f := 31) rfl ?_); refine goesL_ (some 22) rfl rfl Try.func31 (by kernel_rfl) rfl #[.slice Ao14 t408.length co14, .slice Ao15 t411.length co15] rfl (by (try simp only [List.map_toArray, List.map_cons, List.map_nil]); first | done | rfl | (simp only [List.length_drop, List.length_take]; rfl)) ?_; (with_reducible refine (psephosref01_Mul.calls k _ _ t408 _ _ t411 t414 t417 _ ?side1 ?side2 ?side3 ?side4 A7.out).mono ?_); (case side1 => repeat (first | exact (Kd.R_reads' HO410.out).2.2 | (with_reducible refine Kd.C_alloc ?_ _) | (with_reducible refine Kd.C_drewN ?_ _) | (with_reducible refine Kd.C_drew ?_))); (case side2 => exact (Kd.R_reads' HO410.out).2.1); (case side3 => repeat (first | exact (Kd.R_reads' HO413.out).2.2 | (with_reducible refine Kd.C_alloc ?_ _) | (with_reducible refine Kd.C_drewN ?_ _) | (with_reducible refine Kd.C_drew ?_))); (case side4 => exact (Kd.R_reads' HO413.out).2.1); rintro e w16 ⟨v415, rfl, ho0, hb⟩; refine ⟨_, rfl, ?_⟩; have n0_ := Aside0.mk (Kd.R_below (by (with_reducible repeat (first | apply Kd.R_alloc | apply Kd.R_drewN | apply Kd.R_drew)); exact HO410.out) hb); have n1_ := Aside0.mk (Kd.R_below (by (with_reducible repeat (first | apply Kd.R_alloc | apply Kd.R_drewN | apply Kd.R_drew)); exact HO413.out) hb); have n2_ := Aside0.mk (Kd.V_lower (Kd.V_mono (ok' := fun k_ => some k_ ≠ (.slice Ao14 t408.length co14 : Value).ownBlock ∧ some k_ ≠ (.slice Ao15 t411.length co15 : Value).ownBlock) ho0 (fun k_ hk_ => ⟨(Kd.fresh' (Kd.R_lt (by (with_reducible repeat (first | apply Kd.R_alloc | apply Kd.R_drewN | apply Kd.R_drew)); exact HO410.out)) k_ hk_), (Kd.fresh' (Kd.R_lt (by (with_reducible repeat (first | apply Kd.R_alloc | apply Kd.R_drewN | apply Kd.R_drew)); exact HO413.out)) k_ hk_)⟩)) (below_size (by repeat (first | (with_reducible first | exact HB.out | apply below_alloc | apply pw_below_drewN | apply below_drew1) | exact HB.out)))); have n3_ := Aside0.mk (below_step (by repeat (first | (with_reducible first | exact HB.out | apply below_alloc | apply pw_below_drewN | apply below_drew1) | exact HB.out)) hb); clear HO410; clear HO413; clear HB; have HO410 := n0_; have HO413 := n1_; have HO416 := n2_; have HB := n3_; clear n0_ n1_ n2_ n3_; (try clear hb); (try clear hb2); (try clear hk); (try clear hi); (try clear ho0)) | ((with_reducible refine gate_callee (f := 29) rfl ?_); refine goesL_ (some 28) rfl rfl Try.func29 (by kernel_rfl) rfl #[.int .u64 a2] rfl (by (try simp only [List.map_toArray, List.map_cons, List.map_nil]); first | done | rfl | (simp only [List.length_drop, List.length_take]; rfl)) ?_; (with_reducible refine (psephosref01_Of.calls k a2 t418 _ A8.out).mono ?_); rintro e w17 ⟨v419, rfl, ho0, hb⟩; refine ⟨_, rfl, ?_⟩; have n0_ := Aside0.mk (Kd.R_elder' (by (with_reducible repeat (first | apply Kd.R_alloc | apply Kd.R_drewN | apply Kd.R_drew)); exact HO410.out) (Kd.R_base ho0) hb); have n1_ := Aside0.mk (Kd.R_elder' (by (with_reducible repeat (first | apply Kd.R_alloc | apply Kd.R_drewN | apply Kd.R_drew)); exact HO413.out) (Kd.R_base ho0) hb); have n2_ := Aside0.mk (Kd.V_elder' (by (with_reducible repeat (first | apply Kd.V_alloc | apply Kd.V_drewN | apply Kd.V_drew)); exact HO416.out) (Kd.R_base ho0) hb); have n3_ := Aside0.mk (Kd.R_lower (Kd.R_new' (Kd.R_new' ho0 (Kd.R_lt (by (with_reducible repeat (first | apply Kd.R_alloc | apply Kd.R_drewN | apply Kd.R_drew)); exact HO410.out))) (Kd.R_lt (by (with_reducible repeat (first | apply Kd.R_alloc | apply Kd.R_drewN | apply Kd.R_drew)); exact HO413.out))) (below_size (by repeat (first | (with_reducible first | exact HB.out | apply below_alloc | apply pw_below_drewN | apply below_drew1) | exact HB.out)))); have n4_ := Aside0.mk (below_step (by repeat (first | (with_reducible first | exact HB.out | apply below_alloc | apply pw_below_drewN | apply below_drew1) | exact HB.out)) hb); clear HO410; clear HO413; clear HO416; clear HB; have HO410 := n0_; have HO413 := n1_; have HO416 := n2_; have HO420 := n3_; have HB := n4_; clear n0_ n1_ n2_ n3_ n4_; (try clear hb); (try clear hb2); (try clear hk); (try clear hi); (try clear ho0); obtain ⟨Ao18, co18, eo18⟩ := Kd.V_slice HO416.out; subst eo18; obtain ⟨Ao19, co19, eo19⟩ := Kd.R_slice HO420.out; subst eo19) | ((with_reducible refine gate_callee (f := 39) rfl ?_); refine goesL_ (some 29) rfl rfl Try.func39 (by kernel_rfl) rfl #[.slice Ao18 t414.length co18, .slice Ao19 t418.length co19] rfl (by (try simp only [List.map_toArray, List.map_cons, List.map_nil]); first | done | rfl | (simp only [List.length_drop, List.length_take]; rfl)) ?_; (with_reducible refine (psephosref01_DivMod.calls k _ _ t414 _ _ t418 t421 t422 t423 _ ?side1 ?side2 ?side3 ?side4 A9.out).mono ?_); (case side1 => repeat (first | exact (Kd.V_reads' HO416.out).2.2 | (with_reducible refine Kd.C_alloc ?_ _) | (with_reducible refine Kd.C_drewN ?_ _) | (with_reducible refine Kd.C_drew ?_))); (case side2 => exact (Kd.V_reads' HO416.out).2.1); (case side3 => repeat (first | exact (Kd.R_reads' HO420.out).2.2 | (with_reducible refine Kd.C_alloc ?_ _) | (with_reducible refine Kd.C_drewN ?_ _) | (with_reducible refine Kd.C_drew ?_))); (case side4 => exact (Kd.R_reads' HO420.out).2.1); rintro e w20 ⟨v424, v426, rfl, ho0, ho1, hb⟩; refine ⟨_, rfl, ?_⟩; have n0_ := Aside0.mk (Kd.R_mono (Kd.R_told (Kd.R_told (Kd.R_old (by (with_reducible repeat (first | apply Kd.R_alloc | apply Kd.R_drewN | apply Kd.R_drew)); exact HO410.out) hb) (Kd.R_base ho0)) (Kd.R_base ho1)) (fun _ h_ => h_.1)); have n1_ := Aside0.mk (Kd.R_mono (Kd.R_told (Kd.R_told (Kd.R_old (by (with_reducible repeat (first | apply Kd.R_alloc | apply Kd.R_drewN | apply Kd.R_drew)); exact HO413.out) hb) (Kd.R_base ho0)) (Kd.R_base ho1)) (fun _ h_ => h_.1)); have n2_ := Aside0.mk (Kd.V_mono (Kd.V_told (Kd.V_told (Kd.V_old (by (with_reducible repeat (first | apply Kd.V_alloc | apply Kd.V_drewN | apply Kd.V_drew)); exact HO416.out) hb) (Kd.R_base ho0)) (Kd.R_base ho1)) (fun _ h_ => h_.1)); have n3_ := Aside0.mk (Kd.R_mono (Kd.R_told (Kd.R_told (Kd.R_old (by (with_reducible repeat (first | apply Kd.R_alloc | apply Kd.R_drewN | apply Kd.R_drew)); exact HO420.out) hb) (Kd.R_base ho0)) (Kd.R_base ho1)) (fun _ h_ => h_.1)); have n4_ := Aside0.mk (Kd.R_lower (Kd.R_new' (Kd.R_new' (Kd.R_new' ho0 (Kd.R_lt (by (with_reducible repeat (first | apply Kd.R_alloc | apply Kd.R_drewN | apply Kd.R_drew)); exact HO410.out))) (Kd.R_lt (by (with_reducible repeat (first | apply Kd.R_alloc | apply Kd.R_drewN | apply Kd.R_drew)); exact HO413.out))) (Kd.R_lt (by (with_reducible repeat (first | apply Kd.R_alloc | apply Kd.R_drewN | apply Kd.R_drew)); exact HO420.out))) (below_size (by repeat (first | (with_reducible first | exact HB.out | apply below_alloc | apply pw_below_drewN | apply below_drew1) | exact HB.out)))); have n5_ := Aside0.mk (Kd.R_lower (Kd.R_new' (Kd.R_new' (Kd.R_new' ho1 (Kd.R_lt (by (with_reducible repeat (first | apply Kd.R_alloc | apply Kd.R_drewN | apply Kd.R_drew)); exact HO410.out))) (Kd.R_lt (by (with_reducible repeat (first | apply Kd.R_alloc | apply Kd.R_drewN | apply Kd.R_drew)); exact HO413.out))) (Kd.R_lt (by (with_reducible repeat (first | apply Kd.R_alloc | apply Kd.R_drewN | apply Kd.R_drew)); exact HO420.out))) (below_size (by repeat (first | (with_reducible first | exact HB.out | apply below_alloc | apply pw_below_drewN | apply below_drew1) | exact HB.out)))); have n6_ := Aside0.mk (below_step (by repeat (first | (with_reducible first | exact HB.out | apply below_alloc | apply pw_below_drewN | apply below_drew1) | exact HB.out)) hb); clear HO410; clear HO413; clear HO416; clear HO420; clear HB; have HO410 := n0_; have HO413 := n1_; have HO416 := n2_; have HO420 := n3_; have HO425 := n4_; have HO427 := n5_; have HB := n6_; clear n0_ n1_ n2_ n3_ n4_ n5_ n6_; (try clear hb); (try clear hb2); (try clear hk); (try clear hi); (try clear ho0); (try clear ho1); obtain ⟨Ao21, co21, eo21⟩ := Kd.R_slice HO425.out; subst eo21) | ((with_reducible refine gate_callee (f := 24) rfl ?_); refine goesL_ (some 35) rfl rfl Try.func24 (by kernel_rfl) rfl #[.slice Ao21 t421.length co21] rfl (by (try simp only [List.map_toArray, List.map_cons, List.map_nil]); first | done | rfl | (simp only [List.length_drop, List.length_take]; rfl)) ?_; (with_reducible refine (psephosref01_Low.calls k _ _ t421 t428 true _ ?side1 ?side2 A10.out).mono ?_); (case side1 => repeat (first | exact (Kd.R_reads' HO425.out).2.2 | (with_reducible refine Kd.C_alloc ?_ _) | (with_reducible refine Kd.C_drewN ?_ _) | (with_reducible refine Kd.C_drew ?_))); (case side2 => exact (Kd.R_reads' HO425.out).2.1); rintro e w' ⟨rfl, ⟨nd, rfl⟩⟩; refine ⟨_, rfl, ?_⟩))
      go_ret2
      exact ⟨by first | rfl | (simp [errW_none, errW_some] <;> rfl) | (simp [*, errW_none, errW_some] <;> rfl), by repeat (first | (with_reducible first | exact HB.out | apply below_alloc | apply pw_below_drewN | apply below_drew1) | exact HB.out)⟩
    · replace c11 := Bool.eq_false_iff.mpr c11
      subst c11
      have H1 : (some (0, 3)) = some (r1, r2) := by rw [if_neg (show ¬ (false = true) by decide)] at H; exact H
      clear H
      have H := H1
      clear H1
      simp only [Option.some.injEq, Prod.mk.injEq] at H
      obtain ⟨rfl, rfl⟩ := H
      go_enter Try.func43, Try.ntmps43
      go_wp2_with (first | ((with_reducible refine gate_callee (f := 29) rfl ?_); refine goesL_ (some 19) rfl rfl Try.func29 (by kernel_rfl) rfl #[.int .u64 a0] rfl (by (try simp only [List.map_toArray, List.map_cons, List.map_nil]); first | done | rfl | (simp only [List.length_drop, List.length_take]; rfl)) ?_; (with_reducible refine (psephosref01_Of.calls k a0 t408 _ A5.out).mono ?_); rintro e w22 ⟨v409, rfl, ho0, hb⟩; refine ⟨_, rfl, ?_⟩; have n0_ := Aside0.mk (Kd.R_lower ho0 (below_size (by repeat (first | (with_reducible first | exact HB.out | apply below_alloc | apply pw_below_drewN | apply below_drew1) | exact HB.out)))); have n1_ := Aside0.mk (below_step (by repeat (first | (with_reducible first | exact HB.out | apply below_alloc | apply pw_below_drewN | apply below_drew1) | exact HB.out)) hb); clear HB; have HO410 := n0_; have HB := n1_; clear n0_ n1_; (try clear hb); (try clear hb2); (try clear hk); (try clear hi); (try clear ho0)) | ((with_reducible refine gate_callee (f := 29) rfl ?_); refine goesL_ (some 21) rfl rfl Try.func29 (by kernel_rfl) rfl #[.int .u64 a1] rfl (by (try simp only [List.map_toArray, List.map_cons, List.map_nil]); first | done | rfl | (simp only [List.length_drop, List.length_take]; rfl)) ?_; (with_reducible refine (psephosref01_Of.calls k a1 t411 _ A6.out).mono ?_); rintro e w23 ⟨v412, rfl, ho0, hb⟩; refine ⟨_, rfl, ?_⟩; have n0_ := Aside0.mk (Kd.R_elder' (by (with_reducible repeat (first | apply Kd.R_alloc | apply Kd.R_drewN | apply Kd.R_drew)); exact HO410.out) (Kd.R_base ho0) hb); have n1_ := Aside0.mk (Kd.R_lower (Kd.R_new' ho0 (Kd.R_lt (by (with_reducible repeat (first | apply Kd.R_alloc | apply Kd.R_drewN | apply Kd.R_drew)); exact HO410.out))) (below_size (by repeat (first | (with_reducible first | exact HB.out | apply below_alloc | apply pw_below_drewN | apply below_drew1) | exact HB.out)))); have n2_ := Aside0.mk (below_step (by repeat (first | (with_reducible first | exact HB.out | apply below_alloc | apply pw_below_drewN | apply below_drew1) | exact HB.out)) hb); clear HO410; clear HB; have HO410 := n0_; have HO413 := n1_; have HB := n2_; clear n0_ n1_ n2_; (try clear hb); (try clear hb2); (try clear hk); (try clear hi); (try clear ho0); obtain ⟨Ao24, co24, eo24⟩ := Kd.R_slice HO410.out; subst eo24; obtain ⟨Ao25, co25, eo25⟩ := Kd.R_slice HO413.out; subst eo25) | ((with_reducible refine gate_callee (f := 31) rfl ?_); refine goesL_ (some 22) rfl rfl Try.func31 (by kernel_rfl) rfl #[.slice Ao24 t408.length co24, .slice Ao25 t411.length co25] rfl (by (try simp only [List.map_toArray, List.map_cons, List.map_nil]); first | done | rfl | (simp only [List.length_drop, List.length_take]; rfl)) ?_; (with_reducible refine (psephosref01_Mul.calls k _ _ t408 _ _ t411 t414 t417 _ ?side1 ?side2 ?side3 ?side4 A7.out).mono ?_); (case side1 => repeat (first | exact (Kd.R_reads' HO410.out).2.2 | (with_reducible refine Kd.C_alloc ?_ _) | (with_reducible refine Kd.C_drewN ?_ _) | (with_reducible refine Kd.C_drew ?_))); (case side2 => exact (Kd.R_reads' HO410.out).2.1); (case side3 => repeat (first | exact (Kd.R_reads' HO413.out).2.2 | (with_reducible refine Kd.C_alloc ?_ _) | (with_reducible refine Kd.C_drewN ?_ _) | (with_reducible refine Kd.C_drew ?_))); (case side4 => exact (Kd.R_reads' HO413.out).2.1); rintro e w26 ⟨v415, rfl, ho0, hb⟩; refine ⟨_, rfl, ?_⟩; have n0_ := Aside0.mk (Kd.R_below (by (with_reducible repeat (first | apply Kd.R_alloc | apply Kd.R_drewN | apply Kd.R_drew)); exact HO410.out) hb); have n1_ := Aside0.mk (Kd.R_below (by (with_reducible repeat (first | apply Kd.R_alloc | apply Kd.R_drewN | apply Kd.R_drew)); exact HO413.out) hb); have n2_ := Aside0.mk (Kd.V_lower (Kd.V_mono (ok' := fun k_ => some k_ ≠ (.slice Ao24 t408.length co24 : Value).ownBlock ∧ some k_ ≠ (.slice Ao25 t411.length co25 : Value).ownBlock) ho0 (fun k_ hk_ => ⟨(Kd.fresh' (Kd.R_lt (by (with_reducible repeat (first | apply Kd.R_alloc | apply Kd.R_drewN | apply Kd.R_drew)); exact HO410.out)) k_ hk_), (Kd.fresh' (Kd.R_lt (by (with_reducible repeat (first | apply Kd.R_alloc | apply Kd.R_drewN | apply Kd.R_drew)); exact HO413.out)) k_ hk_)⟩)) (below_size (by repeat (first | (with_reducible first | exact HB.out | apply below_alloc | apply pw_below_drewN | apply below_drew1) | exact HB.out)))); have n3_ := Aside0.mk (below_step (by repeat (first | (with_reducible first | exact HB.out | apply below_alloc | apply pw_below_drewN | apply below_drew1) | exact HB.out)) hb); clear HO410; clear HO413; clear HB; have HO410 := n0_; have HO413 := n1_; have HO416 := n2_; have HB := n3_; clear n0_ n1_ n2_ n3_; (try clear hb); (try clear hb2); (try clear hk); (try clear hi); (try clear ho0)) | ((with_reducible refine gate_callee (f := 29) rfl ?_); refine goesL_ (some 28) rfl rfl Try.func29 (by kernel_rfl) rfl #[.int .u64 a2] rfl (by (try simp only [List.map_toArray, List.map_cons, List.map_nil]); first | done | rfl | (simp only [List.length_drop, List.length_take]; rfl)) ?_; (with_reducible refine (psephosref01_Of.calls k a2 t418 _ A8.out).mono ?_); rintro e w27 ⟨v419, rfl, ho0, hb⟩; refine ⟨_, rfl, ?_⟩; have n0_ := Aside0.mk (Kd.R_elder' (by (with_reducible repeat (first | apply Kd.R_alloc | apply Kd.R_drewN | apply Kd.R_drew)); exact HO410.out) (Kd.R_base ho0) hb); have n1_ := Aside0.mk (Kd.R_elder' (by (with_reducible repeat (first | apply Kd.R_alloc | apply Kd.R_drewN | apply Kd.R_drew)); exact HO413.out) (Kd.R_base ho0) hb); have n2_ := Aside0.mk (Kd.V_elder' (by (with_reducible repeat (first | apply Kd.V_alloc | apply Kd.V_drewN | apply Kd.V_drew)); exact HO416.out) (Kd.R_base ho0) hb); have n3_ := Aside0.mk (Kd.R_lower (Kd.R_new' (Kd.R_new' ho0 (Kd.R_lt (by (with_reducible repeat (first | apply Kd.R_alloc | apply Kd.R_drewN | apply Kd.R_drew)); exact HO410.out))) (Kd.R_lt (by (with_reducible repeat (first | apply Kd.R_alloc | apply Kd.R_drewN | apply Kd.R_drew)); exact HO413.out))) (below_size (by repeat (first | (with_reducible first | exact HB.out | apply below_alloc | apply pw_below_drewN | apply below_drew1) | exact HB.out)))); have n4_ := Aside0.mk (below_step (by repeat (first | (with_reducible first | exact HB.out | apply below_alloc | apply pw_below_drewN | apply below_drew1) | exact HB.out)) hb); clear HO410; clear HO413; clear HO416; clear HB; have HO410 := n0_; have HO413 := n1_; have HO416 := n2_; have HO420 := n3_; have HB := n4_; clear n0_ n1_ n2_ n3_ n4_; (try clear hb); (try clear hb2); (try clear hk); (try clear hi); (try clear ho0); obtain ⟨Ao28, co28, eo28⟩ := Kd.V_slice HO416.out; subst eo28; obtain ⟨Ao29, co29, eo29⟩ := Kd.R_slice HO420.out; subst eo29) | ((with_reducible refine gate_callee (f := 39) rfl ?_); refine goesL_ (some 29) rfl rfl Try.func39 (by kernel_rfl) rfl #[.slice Ao28 t414.length co28, .slice Ao29 t418.length co29] rfl (by (try simp only [List.map_toArray, List.map_cons, List.map_nil]); first | done | rfl | (simp only [List.length_drop, List.length_take]; rfl)) ?_; (with_reducible refine (psephosref01_DivMod.calls k _ _ t414 _ _ t418 t421 t422 t423 _ ?side1 ?side2 ?side3 ?side4 A9.out).mono ?_); (case side1 => repeat (first | exact (Kd.V_reads' HO416.out).2.2 | (with_reducible refine Kd.C_alloc ?_ _) | (with_reducible refine Kd.C_drewN ?_ _) | (with_reducible refine Kd.C_drew ?_))); (case side2 => exact (Kd.V_reads' HO416.out).2.1); (case side3 => repeat (first | exact (Kd.R_reads' HO420.out).2.2 | (with_reducible refine Kd.C_alloc ?_ _) | (with_reducible refine Kd.C_drewN ?_ _) | (with_reducible refine Kd.C_drew ?_))); (case side4 => exact (Kd.R_reads' HO420.out).2.1); rintro e w30 ⟨v424, v426, rfl, ho0, ho1, hb⟩; refine ⟨_, rfl, ?_⟩; have n0_ := Aside0.mk (Kd.R_mono (Kd.R_told (Kd.R_told (Kd.R_old (by (with_reducible repeat (first | apply Kd.R_alloc | apply Kd.R_drewN | apply Kd.R_drew)); exact HO410.out) hb) (Kd.R_base ho0)) (Kd.R_base ho1)) (fun _ h_ => h_.1)); have n1_ := Aside0.mk (Kd.R_mono (Kd.R_told (Kd.R_told (Kd.R_old (by (with_reducible repeat (first | apply Kd.R_alloc | apply Kd.R_drewN | apply Kd.R_drew)); exact HO413.out) hb) (Kd.R_base ho0)) (Kd.R_base ho1)) (fun _ h_ => h_.1)); have n2_ := Aside0.mk (Kd.V_mono (Kd.V_told (Kd.V_told (Kd.V_old (by (with_reducible repeat (first | apply Kd.V_alloc | apply Kd.V_drewN | apply Kd.V_drew)); exact HO416.out) hb) (Kd.R_base ho0)) (Kd.R_base ho1)) (fun _ h_ => h_.1)); have n3_ := Aside0.mk (Kd.R_mono (Kd.R_told (Kd.R_told (Kd.R_old (by (with_reducible repeat (first | apply Kd.R_alloc | apply Kd.R_drewN | apply Kd.R_drew)); exact HO420.out) hb) (Kd.R_base ho0)) (Kd.R_base ho1)) (fun _ h_ => h_.1)); have n4_ := Aside0.mk (Kd.R_lower (Kd.R_new' (Kd.R_new' (Kd.R_new' ho0 (Kd.R_lt (by (with_reducible repeat (first | apply Kd.R_alloc | apply Kd.R_drewN | apply Kd.R_drew)); exact HO410.out))) (Kd.R_lt (by (with_reducible repeat (first | apply Kd.R_alloc | apply Kd.R_drewN | apply Kd.R_drew)); exact HO413.out))) (Kd.R_lt (by (with_reducible repeat (first | apply Kd.R_alloc | apply Kd.R_drewN | apply Kd.R_drew)); exact HO420.out))) (below_size (by repeat (first | (with_reducible first | exact HB.out | apply below_alloc | apply pw_below_drewN | apply below_drew1) | exact HB.out)))); have n5_ := Aside0.mk (Kd.R_lower (Kd.R_new' (Kd.R_new' (Kd.R_new' ho1 (Kd.R_lt (by (with_reducible repeat (first | apply Kd.R_alloc | apply Kd.R_drewN | apply Kd.R_drew)); exact HO410.out))) (Kd.R_lt (by (with_reducible repeat (first | apply Kd.R_alloc | apply Kd.R_drewN | apply Kd.R_drew)); exact HO413.out))) (Kd.R_lt (by (with_reducible repeat (first | apply Kd.R_alloc | apply Kd.R_drewN | apply Kd.R_drew)); exact HO420.out))) (below_size (by repeat (first | (with_reducible first | exact HB.out | apply below_alloc | apply pw_below_drewN | apply below_drew1) | exact HB.out)))); have n6_ := Aside0.mk (below_step (by repeat (first | (with_reducible first | exact HB.out | apply below_alloc | apply pw_below_drewN | apply below_drew1) | exact HB.out)) hb); clear HO410; clear HO413; clear HO416; clear HO420; clear HB; have HO410 := n0_; have HO413 := n1_; have HO416 := n2_; have HO420 := n3_; have HO425 := n4_; have HO427 := n5_; have HB := n6_; clear n0_ n1_ n2_ n3_ n4_ n5_ n6_; (try clear hb); (try clear hb2); (try clear hk); (try clear hi); (try clear ho0); (try clear ho1); obtain ⟨Ao31, co31, eo31⟩ := Kd.R_slice HO425.out; subst eo31) | ((with_reducible refine gate_callee (f := 24) rfl ?_); refine goesL_ (some 35) rfl rfl Try.func24 (by kernel_rfl) rfl #[.slice Ao31 t421.length co31] rfl (by (try simp only [List.map_toArray, List.map_cons, List.map_nil]); first | done | rfl | (simp only [List.length_drop, List.length_take]; rfl)) ?_; (with_reducible refine (psephosref01_Low.calls k _ _ t421 t428 false _ ?side1 ?side2 A10.out).mono ?_); (case side1 => repeat (first | exact (Kd.R_reads' HO425.out).2.2 | (with_reducible refine Kd.C_alloc ?_ _) | (with_reducible refine Kd.C_drewN ?_ _) | (with_reducible refine Kd.C_drew ?_))); (case side2 => exact (Kd.R_reads' HO425.out).2.1); rintro e w' ⟨rfl, ⟨nd, rfl⟩⟩; refine ⟨_, rfl, ?_⟩))
      go_ret2
      exact ⟨by first | rfl | (simp [errW_none, errW_some] <;> rfl) | (simp [*, errW_none, errW_some] <;> rfl), by repeat (first | (with_reducible first | exact HB.out | apply below_alloc | apply pw_below_drewN | apply below_drew1) | exact HB.out)⟩

/-! ### money_Square: function 44 -/
def money_Square.f (a0 : Int) : Option (Int × Int) := if (IntKind.u64.wrap ((IntKind.u64.wrap ((Go.bits .and .u64 a0 4294967295) * (Go.bits .and .u64 a0 4294967295))) + (IntKind.u64.wrap ((IntKind.u64.wrap ((Go.bits .and .u64 a0 4294967295) * (a0 / 4294967296))) * 8589934592)))) < (IntKind.u64.wrap ((Go.bits .and .u64 a0 4294967295) * (Go.bits .and .u64 a0 4294967295))) then (some (IntKind.u64.wrap ((IntKind.u64.wrap ((IntKind.u64.wrap ((a0 / 4294967296) * (a0 / 4294967296))) + ((IntKind.u64.wrap ((Go.bits .and .u64 a0 4294967295) * (a0 / 4294967296))) / 2147483648))) + 1), IntKind.u64.wrap ((IntKind.u64.wrap ((Go.bits .and .u64 a0 4294967295) * (Go.bits .and .u64 a0 4294967295))) + (IntKind.u64.wrap ((IntKind.u64.wrap ((Go.bits .and .u64 a0 4294967295) * (a0 / 4294967296))) * 8589934592))))) else (some (IntKind.u64.wrap ((IntKind.u64.wrap ((a0 / 4294967296) * (a0 / 4294967296))) + ((IntKind.u64.wrap ((Go.bits .and .u64 a0 4294967295) * (a0 / 4294967296))) / 2147483648)), IntKind.u64.wrap ((IntKind.u64.wrap ((Go.bits .and .u64 a0 4294967295) * (Go.bits .and .u64 a0 4294967295))) + (IntKind.u64.wrap ((IntKind.u64.wrap ((Go.bits .and .u64 a0 4294967295) * (a0 / 4294967296))) * 8589934592)))))
set_option maxHeartbeats 8000000 in
set_option maxRecDepth 100000 in
theorem money_Square.calls (a0 : Int) (r1 : Int) (r2 : Int) (w : World) (h : money_Square.f a0 = some (r1, r2)) :
    Calls Try.prog 44 #[.int .u64 a0] w fun e w' => e = .returned (.tuple #[.int .u64 r1, .int .u64 r2]) ∧ Drawn0 w w' := by
  have H : (if (IntKind.u64.wrap ((IntKind.u64.wrap ((Go.bits .and .u64 a0 4294967295) * (Go.bits .and .u64 a0 4294967295))) + (IntKind.u64.wrap ((IntKind.u64.wrap ((Go.bits .and .u64 a0 4294967295) * (a0 / 4294967296))) * 8589934592)))) < (IntKind.u64.wrap ((Go.bits .and .u64 a0 4294967295) * (Go.bits .and .u64 a0 4294967295))) then (some (IntKind.u64.wrap ((IntKind.u64.wrap ((IntKind.u64.wrap ((a0 / 4294967296) * (a0 / 4294967296))) + ((IntKind.u64.wrap ((Go.bits .and .u64 a0 4294967295) * (a0 / 4294967296))) / 2147483648))) + 1), IntKind.u64.wrap ((IntKind.u64.wrap ((Go.bits .and .u64 a0 4294967295) * (Go.bits .and .u64 a0 4294967295))) + (IntKind.u64.wrap ((IntKind.u64.wrap ((Go.bits .and .u64 a0 4294967295) * (a0 / 4294967296))) * 8589934592))))) else (some (IntKind.u64.wrap ((IntKind.u64.wrap ((a0 / 4294967296) * (a0 / 4294967296))) + ((IntKind.u64.wrap ((Go.bits .and .u64 a0 4294967295) * (a0 / 4294967296))) / 2147483648)), IntKind.u64.wrap ((IntKind.u64.wrap ((Go.bits .and .u64 a0 4294967295) * (Go.bits .and .u64 a0 4294967295))) + (IntKind.u64.wrap ((IntKind.u64.wrap ((Go.bits .and .u64 a0 4294967295) * (a0 / 4294967296))) * 8589934592)))))) = some (r1, r2) := h
  clear h
  by_cases c2 : (IntKind.u64.wrap ((IntKind.u64.wrap ((Go.bits .and .u64 a0 4294967295) * (Go.bits .and .u64 a0 4294967295))) + (IntKind.u64.wrap ((IntKind.u64.wrap ((Go.bits .and .u64 a0 4294967295) * (a0 / 4294967296))) * 8589934592)))) < (IntKind.u64.wrap ((Go.bits .and .u64 a0 4294967295) * (Go.bits .and .u64 a0 4294967295)))
  · rw [if_pos c2] at H
    have c2b0 : decide ((IntKind.u64.wrap ((IntKind.u64.wrap ((Go.bits .and .u64 a0 4294967295) * (Go.bits .and .u64 a0 4294967295))) + (IntKind.u64.wrap ((IntKind.u64.wrap ((Go.bits .and .u64 a0 4294967295) * (a0 / 4294967296))) * 8589934592)))) < (IntKind.u64.wrap ((Go.bits .and .u64 a0 4294967295) * (Go.bits .and .u64 a0 4294967295)))) = true := decide_eq_true c2
    clear c2
    simp only [Option.some.injEq, Prod.mk.injEq] at H
    obtain ⟨rfl, rfl⟩ := H
    go_enter Try.func44, Try.ntmps44
    go_wp2
    go_ret2
    exact ⟨by first | rfl | (simp; done) | (simp [*]; done), by repeat (first | exact Drawn0.refl _ | apply Drawn0.step)⟩
  · rw [if_neg c2] at H
    have c2b0 : decide ((IntKind.u64.wrap ((IntKind.u64.wrap ((Go.bits .and .u64 a0 4294967295) * (Go.bits .and .u64 a0 4294967295))) + (IntKind.u64.wrap ((IntKind.u64.wrap ((Go.bits .and .u64 a0 4294967295) * (a0 / 4294967296))) * 8589934592)))) < (IntKind.u64.wrap ((Go.bits .and .u64 a0 4294967295) * (Go.bits .and .u64 a0 4294967295)))) = false := decide_eq_false c2
    clear c2
    simp only [Option.some.injEq, Prod.mk.injEq] at H
    obtain ⟨rfl, rfl⟩ := H
    go_enter Try.func44, Try.ntmps44
    go_wp2
    go_ret2
    exact ⟨by first | rfl | (simp; done) | (simp [*]; done), by repeat (first | exact Drawn0.refl _ | apply Drawn0.step)⟩

/-! ### psephosref03_Square: function 45 (by hand) -/
def psephosref03_Square.f (k : Nat) (a0 : Int) : Option (Int × Int) := (psephosref01_Of.f k a0).bind fun t1 => ((psephosref01_Of.f k a0).bind fun t2 => ((psephosref01_Mul.f k t1 t2).bind fun t3 => (if t3.1.length ≤ 4 then (some (Go.bits .or .u64 (IntKind.u64.wrap (IntKind.u64.wrap (rd t3.1 3) * 4294967296)) (IntKind.u64.wrap (rd t3.1 2)), Go.bits .or .u64 (IntKind.u64.wrap (IntKind.u64.wrap (rd t3.1 1) * 4294967296)) (IntKind.u64.wrap (rd t3.1 0)))) else none)))
theorem psephosref03_Square.mono : ∀ a0 k, LeO (psephosref03_Square.f k a0) (psephosref03_Square.f (k + 1) a0) := by
  intro a0 k
  unfold psephosref03_Square.f
  refine LeO.bind (psephosref01_Of.mono _ _) (fun _ => ?_)
  refine LeO.bind (psephosref01_Of.mono _ _) (fun _ => ?_)
  exact LeO.bind (psephosref01_Mul.mono _ _ _) (fun _ => LeO.refl _)
/-- The array behind j rounds. -/
def sq4 (p : List Int) (j : Nat) : Array Value := #[.int .u64 (if 0 < j then IntKind.u64.wrap (rd p 0) else 0), .int .u64 (if 1 < j then IntKind.u64.wrap (rd p 1) else 0), .int .u64 (if 2 < j then IntKind.u64.wrap (rd p 2) else 0), .int .u64 (if 3 < j then IntKind.u64.wrap (rd p 3) else 0)]
set_option maxHeartbeats 8000000 in
set_option maxRecDepth 100000 in
theorem psephosref03_Square.calls (k : Nat) (a0 : Int) (r1 : Int) (r2 : Int) (w : World) (h : psephosref03_Square.f k a0 = some (r1, r2)) :
    Calls Try.prog 45 #[.int .u64 a0] w fun e w' => e = .returned (.tuple #[.int .u64 r1, .int .u64 r2]) ∧ Below w.heap.size w w' := by
  unfold psephosref03_Square.f at h
  obtain ⟨x, X1, h⟩ := Option.bind_eq_some_iff.mp h
  obtain ⟨y, X2, h⟩ := Option.bind_eq_some_iff.mp h
  obtain ⟨⟨p, e⟩, X3, h⟩ := Option.bind_eq_some_iff.mp h
  dsimp only at h
  by_cases hl : p.length ≤ 4
  · rw [if_pos hl] at h
    simp only [Option.some.injEq, Prod.mk.injEq] at h
    obtain ⟨h1, h2⟩ := h
    have Y1 := asd X1
    have Y2 := asd X2
    have Y3 := asd X3
    have E1 := asd h1
    have E2 := asd h2
    clear X1 X2 X3 h1 h2
    go_enter Try.func45, Try.ntmps45
    go_upto_region 2 with (first
      | (go_at_call 29; (with_reducible refine (psephosref01_Of.calls k a0 x w Y1.out).mono ?_); rintro e W1 ⟨v1, rfl, ho, hb⟩; obtain ⟨A1, c1, e9⟩ := Kd.R_slice ho; subst e9; have Z1 := asd (RV.of_R ho); have B1 := asd hb; clear ho hb)
      | (go_at_call 29; (with_reducible refine (psephosref01_Of.calls k a0 y _ Y2.out).mono ?_); rintro e W2 ⟨v2, rfl, ho, hb⟩; obtain ⟨A2, c2, e9⟩ := Kd.R_slice ho; subst e9; have Z2 := asd (RV.of_R ho); have B2 := asd (below_step B1.out hb); have Z1' := asd (RV.below Z1.out hb); clear ho hb)
      | (go_at_call 31; (with_reducible refine (psephosref01_Mul.calls k A1 c1 x A2 c2 y p e _ ?ha ?hb ?hc ?hd Y3.out).mono ?_); (case ha => exact RV.C Z1'.out); (case hb => exact RV.le Z1'.out); (case hc => exact RV.C Z2.out); (case hd => exact RV.le Z2.out); rintro e W3 ⟨v3, rfl, ho, hb⟩; obtain ⟨A3, c3, e9⟩ := Kd.V_slice ho; subst e9; have Z3 := asd (RV.of_V ho); have B3 := asd (below_step B2.out hb); clear ho hb))
    have hsz : (sq4 p 0) = #[.int .u64 0, .int .u64 0, .int .u64 0, .int .u64 0] := rfl
    go_wp2
    go_loopw [18] (fun i wr => ∃ j : Nat, j ≤ p.length ∧ i = .int .i64 j ∧ Aside0 (wr.heap[W3.heap.size]? = some (.cells (sq4 p j) 77 (0, 0))) ∧ Aside0 (RV .u32 wr (.slice A3 p.length c3) p) ∧ Aside0 (Below w.heap.size w wr)) (fun i _ => p.length - (intOf i).toNat)
    case atStart => exact ⟨0, Nat.zero_le _, rfl, ⟨heap_alloc_new W3 _⟩, ⟨RV.below Z3.out (bA_ (Below.refl _ _) _)⟩, ⟨bA_ B3.out _⟩⟩
    case round =>
      obtain ⟨j, hj, rfl, KB, RB, BB⟩ := hrel
      have hWs : wr.heap[W3.heap.size]? = some (.cells (sq4 p j) 77 (0, 0)) := KB.out
      have hfz := blk_frozen hWs j
      have hcz0 := blk_cell hWs 0
      have hcz1 := blk_cell hWs 1
      have hcz2 := blk_cell hWs 2
      have hcz3 := blk_cell hWs 3
      by_cases hlt : j < p.length
      · have hj4 : j < 4 := by omega
        have hczj : wr.cell? ⟨W3.heap.size, j, none⟩ = some (.int .u64 0) := by
          have h4 := blk_cell hWs j
          rw [h4]
          rcases (by omega : j = 0 ∨ j = 1 ∨ j = 2 ∨ j = 3) with rfl | rfl | rfl | rfl <;> rfl
        have hset : (sq4 p j).setIfInBounds j (.int .u64 (IntKind.u64.wrap (rd p j))) = sq4 p (j + 1) := by
          rcases (by omega : j = 0 ∨ j = 1 ∨ j = 2 ∨ j = 3) with rfl | rfl | rfl | rfl <;> simp [sq4]
        obtain ⟨ad, hA, hcp⟩ := Kd.at_int (RV.C RB.out) (j : Int) (by omega) (by omega)
        cases hA
        rw [show ((j : Int)).toNat = j by omega] at hcp
        have hr := (F_all (RV.C RB.out))
        have HS := asd hset
        have HW := asd hWs
        have q1 : (0 : Int) ≤ (j : Int) := by omega
        have q2 : decide ((j : Int) < (p.length : Int)) = true := decide_eq_true (by omega)
        have q3 : decide (j < p.length) = true := decide_eq_true hlt
        clear hset hWs hcz0 hcz1 hcz2 hcz3 hr
        go_wp2
        go_roundw
        case rel => exact ⟨j + 1, by omega, by go_num, ⟨blk_put KB.out j _ HS.out⟩, ⟨RV.set RB.out KB.out (by intro i u hu m e; simp [sq4] at hu; rcases i with _ | _ | _ | _ | i <;> simp at hu <;> (subst hu; cases e)) j _⟩, ⟨below_set BB.out (by have := B3.out.size; omega)⟩⟩
        case measure => simp [intOf]; omega
      · have hj : j = p.length := by omega
        subst hj
        clear hcz0 hcz1 hcz2 hcz3 hfz
        have hx : ∀ q : Nat, q < 4 → wr.cell? ⟨W3.heap.size, q, none⟩ = some (.int .u64 (IntKind.u64.wrap (rd p q))) := by
          intro q hq
          have hp : ∀ q : Nat, ¬ q < p.length → IntKind.u64.wrap (rd p q) = 0 := by
            intro q hq
            have : rd p q = 0 := by unfold rd; rw [List.getD_eq_getElem?_getD, List.getElem?_eq_none (by omega)]; rfl
            rw [this]; rfl
          rw [blk_cell hWs q]
          rcases (by omega : q = 0 ∨ q = 1 ∨ q = 2 ∨ q = 3) with rfl | rfl | rfl | rfl
          · by_cases h0 : 0 < p.length
            · simp [sq4, h0]
            · simp [sq4, h0]; exact (hp 0 h0).symm
          · by_cases h0 : 1 < p.length
            · simp [sq4, h0]
            · simp [sq4, h0]; exact (hp 1 h0).symm
          · by_cases h0 : 2 < p.length
            · simp [sq4, h0]
            · simp [sq4, h0]; exact (hp 2 h0).symm
          · by_cases h0 : 3 < p.length
            · simp [sq4, h0]
            · simp [sq4, h0]; exact (hp 3 h0).symm
        have hc0 : wr.cell? ⟨W3.heap.size, 0, none⟩ = some (.int .u64 (IntKind.u64.wrap (rd p 0))) := hx 0 (by omega)
        have hc1 : wr.cell? ⟨W3.heap.size, 1, none⟩ = some (.int .u64 (IntKind.u64.wrap (rd p 1))) := hx 1 (by omega)
        have hc2 : wr.cell? ⟨W3.heap.size, 2, none⟩ = some (.int .u64 (IntKind.u64.wrap (rd p 2))) := hx 2 (by omega)
        have hc3 : wr.cell? ⟨W3.heap.size, 3, none⟩ = some (.int .u64 (IntKind.u64.wrap (rd p 3))) := hx 3 (by omega)
        clear hx hWs
        go_wp2
        go_quiet (fail)
        go_wp2
        go_ret2
        exact ⟨by rw [← E1.out, ← E2.out]; rfl, by repeat (first | exact BB.out | apply bN_ | apply bD_)⟩
  · rw [if_neg hl] at h; cases h

/-! ### psephoslaw06_MoneyParts: function 11 -/
def psephoslaw06_MoneyParts.f (k : Nat) (a0 : Int) (a1 : Int) (a2 : Int) : Option (Bool) := (psephoslaw06_awake.f).bind fun t430 => (if t430 = true then ((money_Part.f k a0 a1 a2).bind fun bt431 => ((psephosref03_Part.f k a0 a1 a2).bind fun bt433 => ((money_Square.f a0).bind fun bt435 => ((psephosref03_Square.f k a0).bind fun bt437 => (if bt431.1 = bt433.1 then (if bt431.2 = bt433.2 then (if bt435.1 = bt437.1 then (some (bt435.2 == bt437.2)) else (none)) else (none)) else (none)))))) else (none))
theorem psephoslaw06_MoneyParts.mono : ∀ a0 a1 a2 k, LeO (psephoslaw06_MoneyParts.f k a0 a1 a2) (psephoslaw06_MoneyParts.f (k + 1) a0 a1 a2) := by
  intro a0 a1 a2 k
  unfold psephoslaw06_MoneyParts.f
  repeat' first
      | (with_reducible exact money_Part.mono _ _ _ _)
      | (with_reducible exact psephosref03_Part.mono _ _ _ _)
      | (with_reducible exact psephosref03_Square.mono _ _)
      | (with_reducible exact LeO.refl _)
      | (with_reducible exact LeO.none _)
      | (with_reducible refine LeO.ite ?_ ?_)
      | (with_reducible refine LeO.bind ?_ (fun _ => ?_))
      | exact money_Part.mono _ _ _ _
      | exact psephosref03_Part.mono _ _ _ _
      | exact psephosref03_Square.mono _ _
      | exact LeO.none _
      | refine LeO.ite ?_ ?_
      | refine LeO.bind ?_ (fun _ => ?_)
set_option maxHeartbeats 8000000 in
set_option maxRecDepth 100000 in
theorem psephoslaw06_MoneyParts.calls (k : Nat) (a0 : Int) (a1 : Int) (a2 : Int) (r : Bool) (w : World) (h : psephoslaw06_MoneyParts.f k a0 a1 a2 = some r) :
    Calls Try.prog 11 #[.int .u64 a0, .int .u64 a1, .int .u64 a2] w fun e w' => e = .returned (.bool r) ∧ Below w.heap.size w w' := by
  have HB := Aside0.mk (Below.refl w.heap.size w)
  have H : ((psephoslaw06_awake.f).bind fun t430 => (if t430 = true then ((money_Part.f k a0 a1 a2).bind fun bt431 => ((psephosref03_Part.f k a0 a1 a2).bind fun bt433 => ((money_Square.f a0).bind fun bt435 => ((psephosref03_Square.f k a0).bind fun bt437 => (if bt431.1 = bt433.1 then (if bt431.2 = bt433.2 then (if bt435.1 = bt437.1 then (some (bt435.2 == bt437.2)) else (none)) else (none)) else (none)))))) else (none))) = some r := h
  clear h
  replace H := Option.bind_eq_some_iff.mp H
  obtain ⟨t430, A40, H⟩ := H
  replace H : (if t430 = true then ((money_Part.f k a0 a1 a2).bind fun bt431 => ((psephosref03_Part.f k a0 a1 a2).bind fun bt433 => ((money_Square.f a0).bind fun bt435 => ((psephosref03_Square.f k a0).bind fun bt437 => (if bt431.1 = bt433.1 then (if bt431.2 = bt433.2 then (if bt435.1 = bt437.1 then (some (bt435.2 == bt437.2)) else (none)) else (none)) else (none)))))) else (none)) = some r := H
  have A4 := Aside0.mk A40
  clear A40
  by_cases c5 : t430 = true
  · subst c5
    have H1 : ((money_Part.f k a0 a1 a2).bind fun bt431 => ((psephosref03_Part.f k a0 a1 a2).bind fun bt433 => ((money_Square.f a0).bind fun bt435 => ((psephosref03_Square.f k a0).bind fun bt437 => (if bt431.1 = bt433.1 then (if bt431.2 = bt433.2 then (if bt435.1 = bt437.1 then (some (bt435.2 == bt437.2)) else (none)) else (none)) else (none)))))) = some r := by rw [if_pos rfl] at H; exact H
    clear H
    have H := H1
    clear H1
    replace H := Option.bind_eq_some_iff.mp H
    obtain ⟨⟨t431, t432⟩, A60, H⟩ := H
    replace H : ((psephosref03_Part.f k a0 a1 a2).bind fun bt433 => ((money_Square.f a0).bind fun bt435 => ((psephosref03_Square.f k a0).bind fun bt437 => (if t431 = bt433.1 then (if t432 = bt433.2 then (if bt435.1 = bt437.1 then (some (bt435.2 == bt437.2)) else (none)) else (none)) else (none))))) = some r := H
    have A6 := Aside0.mk A60
    clear A60
    replace H := Option.bind_eq_some_iff.mp H
    obtain ⟨⟨t433, t434⟩, A70, H⟩ := H
    replace H : ((money_Square.f a0).bind fun bt435 => ((psephosref03_Square.f k a0).bind fun bt437 => (if t431 = t433 then (if t432 = t434 then (if bt435.1 = bt437.1 then (some (bt435.2 == bt437.2)) else (none)) else (none)) else (none)))) = some r := H
    have A7 := Aside0.mk A70
    clear A70
    replace H := Option.bind_eq_some_iff.mp H
    obtain ⟨⟨t435, t436⟩, A80, H⟩ := H
    replace H : ((psephosref03_Square.f k a0).bind fun bt437 => (if t431 = t433 then (if t432 = t434 then (if t435 = bt437.1 then (some (t436 == bt437.2)) else (none)) else (none)) else (none))) = some r := H
    have A8 := Aside0.mk A80
    clear A80
    replace H := Option.bind_eq_some_iff.mp H
    obtain ⟨⟨t437, t438⟩, A90, H⟩ := H
    replace H : (if t431 = t433 then (if t432 = t434 then (if t435 = t437 then (some (t436 == t438)) else (none)) else (none)) else (none)) = some r := H
    have A9 := Aside0.mk A90
    clear A90
    by_cases c10 : t431 = t433
    · rw [if_pos c10] at H
      have c10b0 : (t431 == t433) = true := beq_iff_eq.mpr c10
      have c10b1 : (t431 != t433) = false := bne_eq_false_iff_eq.mpr c10
      clear c10
      by_cases c11 : t432 = t434
      · rw [if_pos c11] at H
        have c11b0 : (t432 == t434) = true := beq_iff_eq.mpr c11
        have c11b1 : (t432 != t434) = false := bne_eq_false_iff_eq.mpr c11
        clear c11
        by_cases c12 : t435 = t437
        · rw [if_pos c12] at H
          have c12b0 : (t435 == t437) = true := beq_iff_eq.mpr c12
          have c12b1 : (t435 != t437) = false := bne_eq_false_iff_eq.mpr c12
          clear c12
          obtain rfl := Option.some.inj H
          go_enter Try.func11, Try.ntmps11
          go_wp2_with (first | ((with_reducible refine gate_callee (f := 14) rfl ?_); refine goesL_ (some 15) rfl rfl Try.func14 (by kernel_rfl) rfl #[] rfl (by (try simp only [List.map_toArray, List.map_cons, List.map_nil]); first | done | rfl | (simp only [List.length_drop, List.length_take]; rfl)) ?_; (with_reducible refine (psephoslaw06_awake.calls  true _ A4.out).mono ?_); rintro e w' ⟨rfl, ⟨nd, rfl⟩⟩; refine ⟨_, rfl, ?_⟩) | ((with_reducible refine gate_callee (f := 42) rfl ?_); refine goesL_ (some 21) rfl rfl Try.func42 (by kernel_rfl) rfl #[.int .u64 a0, .int .u64 a1, .int .u64 a2] rfl (by (try simp only [List.map_toArray, List.map_cons, List.map_nil]); first | done | rfl | (simp only [List.length_drop, List.length_take]; rfl)) ?_; (with_reducible refine (money_Part.calls k a0 a1 a2 t431 t432 _ A6.out).mono ?_); rintro e w13 ⟨rfl, hb⟩; refine ⟨_, rfl, ?_⟩; have n0_ := Aside0.mk (below_step (by repeat (first | (with_reducible first | exact HB.out | apply below_alloc | apply pw_below_drewN | apply below_drew1) | exact HB.out)) hb); clear HB; have HB := n0_; clear n0_; (try clear hb); (try clear hb2); (try clear hk); (try clear hi)) | ((with_reducible refine gate_callee (f := 43) rfl ?_); refine goesL_ (some 28) rfl rfl Try.func43 (by kernel_rfl) rfl #[.int .u64 a0, .int .u64 a1, .int .u64 a2] rfl (by (try simp only [List.map_toArray, List.map_cons, List.map_nil]); first | done | rfl | (simp only [List.length_drop, List.length_take]; rfl)) ?_; (with_reducible refine (psephosref03_Part.calls k a0 a1 a2 t433 t434 _ A7.out).mono ?_); rintro e w14 ⟨rfl, hb⟩; refine ⟨_, rfl, ?_⟩; have n0_ := Aside0.mk (below_step (by repeat (first | (with_reducible first | exact HB.out | apply below_alloc | apply pw_below_drewN | apply below_drew1) | exact HB.out)) hb); clear HB; have HB := n0_; clear n0_; (try clear hb); (try clear hb2); (try clear hk); (try clear hi)) | ((with_reducible refine gate_callee (f := 44) rfl ?_); refine goesL_ (some 33) rfl rfl Try.func44 (by kernel_rfl) rfl #[.int .u64 a0] rfl (by (try simp only [List.map_toArray, List.map_cons, List.map_nil]); first | done | rfl | (simp only [List.length_drop, List.length_take]; rfl)) ?_; (with_reducible refine (money_Square.calls a0 t435 t436 _ A8.out).mono ?_); rintro e w' ⟨rfl, ⟨nd, rfl⟩⟩; refine ⟨_, rfl, ?_⟩) | ((with_reducible refine gate_callee (f := 45) rfl ?_); refine goesL_ (some 38) rfl rfl Try.func45 (by kernel_rfl) rfl #[.int .u64 a0] rfl (by (try simp only [List.map_toArray, List.map_cons, List.map_nil]); first | done | rfl | (simp only [List.length_drop, List.length_take]; rfl)) ?_; (with_reducible refine (psephosref03_Square.calls k a0 t437 t438 _ A9.out).mono ?_); rintro e w15 ⟨rfl, hb⟩; refine ⟨_, rfl, ?_⟩; have n0_ := Aside0.mk (below_step (by repeat (first | (with_reducible first | exact HB.out | apply below_alloc | apply pw_below_drewN | apply below_drew1) | exact HB.out)) hb); clear HB; have HB := n0_; clear n0_; (try clear hb); (try clear hb2); (try clear hk); (try clear hi)))
          go_ret
          exact ⟨by first | rfl | (simp [errW_none, errW_some] <;> rfl) | (simp [*, errW_none, errW_some] <;> rfl), by repeat (first | (with_reducible first | exact HB.out | apply below_alloc | apply pw_below_drewN | apply below_drew1) | exact HB.out)⟩
        · rw [if_neg c12] at H
          exact absurd H (by simp)
      · rw [if_neg c11] at H
        exact absurd H (by simp)
    · rw [if_neg c10] at H
      exact absurd H (by simp)
  · replace c5 := Bool.eq_false_iff.mpr c5
    subst c5
    have H1 : (none) = some r := by rw [if_neg (show ¬ (false = true) by decide)] at H; exact H
    clear H
    have H := H1
    clear H1
    exact absurd H (by simp)

/-- THE ONE PURE STATEMENT of psephoslaw06_MoneyParts: yours. -/
def psephoslaw06_MoneyParts.Pure : Prop := ∀ (a0 : Int) (a1 : Int) (a2 : Int), (Lit.int .u64 a0).wf = true → (Lit.int .u64 a1).wf = true → (Lit.int .u64 a2).wf = true → ∃ k, psephoslaw06_MoneyParts.f k a0 a1 a2 = some true
theorem psephoslaw06_MoneyParts.walk (P : psephoslaw06_MoneyParts.Pure) (a0 : Int) (a1 : Int) (a2 : Int) (w : World) (w0 : (Lit.int .u64 a0).wf = true) (w1 : (Lit.int .u64 a1).wf = true) (w2 : (Lit.int .u64 a2).wf = true) :
    Calls Try.prog 11 #[.int .u64 a0, .int .u64 a1, .int .u64 a2] w fun e w' => e = .returned (.bool true) ∧ Below w.heap.size w w' := by
  obtain ⟨k, h⟩ := P a0 a1 a2 w0 w1 w2
  refine (psephoslaw06_MoneyParts.calls k a0 a1 a2 true w h).mono ?_
  rintro e w' ⟨rfl, hd⟩
  exact ⟨rfl, hd⟩

end Go.Proofs.Ytapmhmkekkhhpaa.PMoneyParts
