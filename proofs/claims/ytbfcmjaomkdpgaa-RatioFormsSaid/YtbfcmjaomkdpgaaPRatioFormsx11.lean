-- Written by pr.py (wip/tools), a program of this session, over the kit's printer.
import Derived.Test.YtbfcmjaomkdpgaaPRatioFormsx0
import Derived.Test.YtbfcmjaomkdpgaaPRatioFormsx8
import Derived.Test.YtbfcmjaomkdpgaaPRatioFormsx9
import Derived.Test.YtbfcmjaomkdpgaaPRatioFormsx10
namespace Go.Proofs.Ytbfcmjaomkdpgaa.PRatioForms
open Go.RowKit Go.Proofs.YtbfcmjaomkdpgaaW.PrintWords Go.Proofs.YtbfcmjaomkdpgaaW.PrintLast Go.Proofs.YtbfcmjaomkdpgaaW.PrintMore
attribute [local go_sem] max2_int min2_int max_two min_two max_three min_three max_four min_four   -- for this text's walks alone
set_option linter.unusedVariables false
set_option linter.unusedSimpArgs false

/-! ### psephosref01_divMod: function 77 -/
def psephosref01_divMod.l0 : Nat → List Int → List Int → List Int → Int → Option (List Int × List Int)
  | 0, _, _, _, _ => none
  | k + 1, x7, x8, x9, x10 => if x10 ≥ 0 then ((psephosref01_cmp.f k x8 x9).bind fun t372 => (if t372 ≥ 0 then ((psephosref01_sub.f k x8 x9).bind fun t373 => (if 0 ≤ (wrap64 (Int.tdiv x10 32)) then (if (wrap64 (Int.tdiv x10 32)) < (x7.length : Int) then (if 0 ≤ (IntKind.u64.wrap (Int.tmod x10 32)) then ((psephosref01_half.f k x9).bind fun t378 => (psephosref01_divMod.l0 k (x7.set ((wrap64 (Int.tdiv x10 32)) : Int).toNat (Go.bits .or .u32 (rd x7 (wrap64 (Int.tdiv x10 32))) (shl .u32 1 (IntKind.u64.wrap (Int.tmod x10 32))))) t373 t378 (wrap64 (x10 - 1)))) else (none)) else (none)) else (none))) else ((psephosref01_half.f k x9).bind fun t381 => (psephosref01_divMod.l0 k x7 x8 t381 (wrap64 (x10 - 1)))))) else ((psephosref01_trim.f k x7).bind fun t369 => (some (t369, x8)))
def psephosref01_divMod.f (k : Nat) (l0 : List Int) (l1 : List Int) : Option (List Int × List Int) := (psephosref01_bits.f k l0).bind fun t355 => ((psephosref01_bits.f k l1).bind fun t356 => (if (wrap64 (t355 - t356)) < 0 then ((psephosref01_trim.f k l0).bind fun t357 => (some (([] : List Int), t357))) else (if 0 ≤ (wrap64 ((wrap64 (Int.tdiv (wrap64 (t355 - t356)) 32)) + 1)) then (if (wrap64 ((wrap64 (Int.tdiv (wrap64 (t355 - t356)) 32)) + 1) : Int).toNat ≤ 70368744177664 then ((psephosref01_trim.f k l0).bind fun t363 => ((psephosref01_shifted.f k l1 (wrap64 (t355 - t356))).bind fun t366 => (psephosref01_divMod.l0 k (List.replicate (wrap64 ((wrap64 (Int.tdiv (wrap64 (t355 - t356)) 32)) + 1) : Int).toNat 0) t363 t366 (wrap64 (t355 - t356))))) else (none)) else (none))))
theorem psephosref01_divMod.mono_l : ∀ k, (∀ y0 y1 y2 y3, LeO (psephosref01_divMod.l0 k y0 y1 y2 y3) (psephosref01_divMod.l0 (k + 1) y0 y1 y2 y3))
  | 0 => fun _ _ _ _ r h => by simp [psephosref01_divMod.l0] at h
  | k + 1 => by
    have ih0 := psephosref01_divMod.mono_l k
    · intro y0 y1 y2 y3
      unfold psephosref01_divMod.l0
      repeat' first
      | (with_reducible exact ih0 _ _ _ _)
      | (with_reducible exact psephosref01_bits.mono _ _)
      | (with_reducible exact psephosref01_cmp.mono _ _ _)
      | (with_reducible exact psephosref01_half.mono _ _)
      | (with_reducible exact psephosref01_shifted.mono _ _ _)
      | (with_reducible exact psephosref01_sub.mono _ _ _)
      | (with_reducible exact psephosref01_trim.mono _ _)
      | (with_reducible exact LeO.refl _)
      | (with_reducible exact LeO.none _)
      | (with_reducible refine LeO.ite ?_ ?_)
      | (with_reducible refine LeO.bind ?_ (fun _ => ?_))
      | exact ih0 _ _ _ _
      | exact psephosref01_bits.mono _ _
      | exact psephosref01_cmp.mono _ _ _
      | exact psephosref01_half.mono _ _
      | exact psephosref01_shifted.mono _ _ _
      | exact psephosref01_sub.mono _ _ _
      | exact psephosref01_trim.mono _ _
      | exact LeO.none _
      | refine LeO.ite ?_ ?_
      | refine LeO.bind ?_ (fun _ => ?_)
theorem psephosref01_divMod.mono : ∀ a0 a1 k, LeO (psephosref01_divMod.f k a0 a1) (psephosref01_divMod.f (k + 1) a0 a1) := by
  intro a0 a1 k
  have ih0 := psephosref01_divMod.mono_l k
  unfold psephosref01_divMod.f
  repeat' first
      | (with_reducible exact ih0 _ _ _ _)
      | (with_reducible exact psephosref01_bits.mono _ _)
      | (with_reducible exact psephosref01_cmp.mono _ _ _)
      | (with_reducible exact psephosref01_half.mono _ _)
      | (with_reducible exact psephosref01_shifted.mono _ _ _)
      | (with_reducible exact psephosref01_sub.mono _ _ _)
      | (with_reducible exact psephosref01_trim.mono _ _)
      | (with_reducible exact LeO.refl _)
      | (with_reducible exact LeO.none _)
      | (with_reducible refine LeO.ite ?_ ?_)
      | (with_reducible refine LeO.bind ?_ (fun _ => ?_))
      | exact ih0 _ _ _ _
      | exact psephosref01_bits.mono _ _
      | exact psephosref01_cmp.mono _ _ _
      | exact psephosref01_half.mono _ _
      | exact psephosref01_shifted.mono _ _ _
      | exact psephosref01_sub.mono _ _ _
      | exact psephosref01_trim.mono _ _
      | exact LeO.none _
      | refine LeO.ite ?_ ?_
      | refine LeO.bind ?_ (fun _ => ?_)
def psephosref01_divMod.T4 : Bool × List (List Nat × List Nat) := (true, [([], []), ([0], [0]), ([1], [1]), ([2, 2], [2]), ([], []), ([4], [4]), ([3, 5, 0, 1, 2, 3], [3]), ([5, 6, 0, 1, 2, 3, 4, 5, 6], [5])])
def psephosref01_divMod.B4 : List Nat := [0, 1, 3, 7, 0, 16, 63, 127]
theorem psephosref01_divMod.tab4 : rtab .any (opsOf Try.f77 4) = psephosref01_divMod.T4 := by kernel_rfl
theorem psephosref01_divMod.bits4 : waitsOk psephosref01_divMod.T4.2 psephosref01_divMod.B4 = true := by kernel_rfl
set_option maxHeartbeats 8000000 in
set_option maxRecDepth 100000 in
theorem psephosref01_divMod.calls (k : Nat) (A0 : Option Addr) (c0 : Nat) (l0 : List Int) (A1 : Option Addr) (c1 : Nat) (l1 : List Int) (r1 : List Int) (r2 : List Int) (w : World) (hr0 : Kd.C (Kd.int .u32) w A0 l0.length l0) (hc0 : l0.length ≤ c0) (hr1 : Kd.C (Kd.int .u32) w A1 l1.length l1) (hc1 : l1.length ≤ c1) (h : psephosref01_divMod.f k l0 l1 = some (r1, r2)) :
    Calls Try.prog 77 #[.slice A0 l0.length c0, .slice A1 l1.length c1] w fun e w' => ∃ v0_ v1_ : Value, e = .returned (.tuple #[v0_, v1_]) ∧ Kd.R (Kd.int .u32) 64 w' w.heap.size (fun k_ => some k_ ≠ (v1_ : Value).ownBlock) v0_ r1 ∧ Kd.R (Kd.int .u32) 64 w' w.heap.size (fun k_ => some k_ ≠ (v0_ : Value).ownBlock) v1_ r2 ∧ Below w.heap.size w w' := by
  have HR0 := Aside0.mk hr0
  have HC0 := Aside0.mk hc0
  clear hr0 hc0
  have HR1 := Aside0.mk hr1
  have HC1 := Aside0.mk hc1
  clear hr1 hc1
  have HB := Aside0.mk (Below.refl w.heap.size w)
  have H : ((psephosref01_bits.f k l0).bind fun t355 => ((psephosref01_bits.f k l1).bind fun t356 => (if (wrap64 (t355 - t356)) < 0 then ((psephosref01_trim.f k l0).bind fun t357 => (some (([] : List Int), t357))) else (if 0 ≤ (wrap64 ((wrap64 (Int.tdiv (wrap64 (t355 - t356)) 32)) + 1)) then (if (wrap64 ((wrap64 (Int.tdiv (wrap64 (t355 - t356)) 32)) + 1) : Int).toNat ≤ 70368744177664 then ((psephosref01_trim.f k l0).bind fun t363 => ((psephosref01_shifted.f k l1 (wrap64 (t355 - t356))).bind fun t366 => (psephosref01_divMod.l0 k (List.replicate (wrap64 ((wrap64 (Int.tdiv (wrap64 (t355 - t356)) 32)) + 1) : Int).toNat 0) t363 t366 (wrap64 (t355 - t356))))) else (none)) else (none))))) = some (r1, r2) := h
  clear h
  replace H := Option.bind_eq_some_iff.mp H
  obtain ⟨t355, A30, H⟩ := H
  replace H : ((psephosref01_bits.f k l1).bind fun t356 => (if (wrap64 (t355 - t356)) < 0 then ((psephosref01_trim.f k l0).bind fun t357 => (some (([] : List Int), t357))) else (if 0 ≤ (wrap64 ((wrap64 (Int.tdiv (wrap64 (t355 - t356)) 32)) + 1)) then (if (wrap64 ((wrap64 (Int.tdiv (wrap64 (t355 - t356)) 32)) + 1) : Int).toNat ≤ 70368744177664 then ((psephosref01_trim.f k l0).bind fun t363 => ((psephosref01_shifted.f k l1 (wrap64 (t355 - t356))).bind fun t366 => (psephosref01_divMod.l0 k (List.replicate (wrap64 ((wrap64 (Int.tdiv (wrap64 (t355 - t356)) 32)) + 1) : Int).toNat 0) t363 t366 (wrap64 (t355 - t356))))) else (none)) else (none)))) = some (r1, r2) := H
  have A3 := Aside0.mk A30
  clear A30
  replace H := Option.bind_eq_some_iff.mp H
  obtain ⟨t356, A40, H⟩ := H
  replace H : (if (wrap64 (t355 - t356)) < 0 then ((psephosref01_trim.f k l0).bind fun t357 => (some (([] : List Int), t357))) else (if 0 ≤ (wrap64 ((wrap64 (Int.tdiv (wrap64 (t355 - t356)) 32)) + 1)) then (if (wrap64 ((wrap64 (Int.tdiv (wrap64 (t355 - t356)) 32)) + 1) : Int).toNat ≤ 70368744177664 then ((psephosref01_trim.f k l0).bind fun t363 => ((psephosref01_shifted.f k l1 (wrap64 (t355 - t356))).bind fun t366 => (psephosref01_divMod.l0 k (List.replicate (wrap64 ((wrap64 (Int.tdiv (wrap64 (t355 - t356)) 32)) + 1) : Int).toNat 0) t363 t366 (wrap64 (t355 - t356))))) else (none)) else (none))) = some (r1, r2) := H
  have A4 := Aside0.mk A40
  clear A40
  by_cases c5 : (wrap64 (t355 - t356)) < 0
  · rw [if_pos c5] at H
    have c5b0 : decide ((wrap64 (t355 - t356)) < 0) = true := decide_eq_true c5
    clear c5
    replace H := Option.bind_eq_some_iff.mp H
    obtain ⟨t357, A60, H⟩ := H
    replace H : (some (([] : List Int), t357)) = some (r1, r2) := H
    have A6 := Aside0.mk A60
    clear A60
    simp only [Option.some.injEq, Prod.mk.injEq] at H
    obtain ⟨rfl, rfl⟩ := H
    go_enter Try.func77, Try.ntmps77
    go_wp2_with (first | ((with_reducible refine gate_callee (f := 109) rfl ?_); refine goesL_ (some 12) rfl rfl Try.func109 (by kernel_rfl) rfl #[.slice A0 l0.length c0] rfl (by (try simp only [List.map_toArray, List.map_cons, List.map_nil]); first | done | rfl | (simp only [List.length_drop, List.length_take]; rfl)) ?_; (with_reducible refine (psephosref01_bits.calls k _ _ l0 t355 _ ?side1 ?side2 A3.out).mono ?_); (case side1 => repeat (first | exact HR0.out | (with_reducible refine Kd.C_alloc ?_ _) | (with_reducible refine Kd.C_drewN ?_ _) | (with_reducible refine Kd.C_drew ?_))); (case side2 => exact HC0.out); rintro e w' ⟨rfl, ⟨nd, rfl⟩⟩; refine ⟨_, rfl, ?_⟩) | ((with_reducible refine gate_callee (f := 109) rfl ?_); refine goesL_ (some 14) rfl rfl Try.func109 (by kernel_rfl) rfl #[.slice A1 l1.length c1] rfl (by (try simp only [List.map_toArray, List.map_cons, List.map_nil]); first | done | rfl | (simp only [List.length_drop, List.length_take]; rfl)) ?_; (with_reducible refine (psephosref01_bits.calls k _ _ l1 t356 _ ?side1 ?side2 A4.out).mono ?_); (case side1 => repeat (first | exact HR1.out | (with_reducible refine Kd.C_alloc ?_ _) | (with_reducible refine Kd.C_drewN ?_ _) | (with_reducible refine Kd.C_drew ?_))); (case side2 => exact HC1.out); rintro e w' ⟨rfl, ⟨nd, rfl⟩⟩; refine ⟨_, rfl, ?_⟩) | ((with_reducible refine gate_callee (f := 107) rfl ?_); refine goesL_ (some 19) rfl rfl Try.func107 (by kernel_rfl) rfl #[.slice A0 l0.length c0] rfl (by (try simp only [List.map_toArray, List.map_cons, List.map_nil]); first | done | rfl | (simp only [List.length_drop, List.length_take]; rfl)) ?_; (with_reducible refine (psephosref01_trim.calls k _ _ l0 t357 _ ?side1 ?side2 A6.out).mono ?_); (case side1 => repeat (first | exact HR0.out | (with_reducible refine Kd.C_alloc ?_ _) | (with_reducible refine Kd.C_drewN ?_ _) | (with_reducible refine Kd.C_drew ?_))); (case side2 => exact HC0.out); rintro e w7 ⟨v358, rfl, ho0, hb⟩; refine ⟨_, rfl, ?_⟩; have n0_ := Aside0.mk (Kd.R_lower ho0 (below_size (by repeat (first | (with_reducible first | exact HB.out | apply below_alloc | apply pw_below_drewN | apply below_drew1) | exact HB.out)))); have n1_ := Aside0.mk (below_step (by repeat (first | (with_reducible first | exact HB.out | apply below_alloc | apply pw_below_drewN | apply below_drew1) | exact HB.out)) hb); clear HB; have HO359 := n0_; have HB := n1_; clear n0_ n1_; (try clear hb); (try clear hb2); (try clear hk); (try clear hi); (try clear ho0)))
    go_ret2
    exact ⟨.slice none 0 0, _, by first | rfl | (simp [errW_none, errW_some] <;> rfl) | (simp [*, errW_none, errW_some] <;> rfl), by first | exact Kd.R_nil _ _ _ _ _ | exact Kd.N_nil _ _ _ _ _ | exact Kd.V_nil _ _ _ _ _ | exact Kd.Q_nil _ _ _ _ _ | exact Kd.S_nil _ _ _ _ _, by (with_reducible repeat (first | apply Kd.R_alloc | apply Kd.R_drewN | apply Kd.R_drew)); exact Kd.R_mono HO359.out (fun _ hk => (by simp [Value.ownBlock])), by repeat (first | (with_reducible first | exact HB.out | apply below_alloc | apply pw_below_drewN | apply below_drew1) | exact HB.out)⟩
  · rw [if_neg c5] at H
    have c5b0 : decide ((wrap64 (t355 - t356)) < 0) = false := decide_eq_false c5
    clear c5
    obtain ⟨ji8, hji8⟩ : ∃ j_ : Int, (wrap64 ((wrap64 (Int.tdiv (wrap64 (t355 - t356)) 32)) + 1)) = j_ := ⟨_, rfl⟩
    replace H : (if 0 ≤ (ji8) then (if (ji8 : Int).toNat ≤ 70368744177664 then ((psephosref01_trim.f k l0).bind fun t363 => ((psephosref01_shifted.f k l1 (wrap64 (t355 - t356))).bind fun t366 => (psephosref01_divMod.l0 k (List.replicate (ji8 : Int).toNat 0) t363 t366 (wrap64 (t355 - t356))))) else (none)) else (none)) = some (r1, r2) := by first | (rw [hji8] at H; exact H) | (simp only [hji8] at H ⊢; exact H)
    (try rw [hji8] at A3)
    (try rw [hji8] at A4)
    have hji8w : (IntKind.i64.wrap ((wrap64 (Int.tdiv (wrap64 (t355 - t356)) 32)) + 1)) = ji8 := (i64_w _).trans hji8
    by_cases c9 : 0 ≤ (ji8)
    · rw [if_pos c9] at H
      have c9b0 := eq_true c9
      have c9b1 : decide (0 ≤ (ji8)) = true := decide_eq_true c9
      clear c9
      by_cases c10 : (ji8 : Int).toNat ≤ 70368744177664
      · rw [if_pos c10] at H
        have c10b0 := eq_true c10
        have c10b1 : decide ((ji8 : Int).toNat ≤ 70368744177664) = true := decide_eq_true c10
        clear c10
        obtain ⟨y360, hy360⟩ : ∃ y_ : List Int, y_ = (List.replicate (ji8 : Int).toNat 0) := ⟨_, rfl⟩
        replace H : ((psephosref01_trim.f k l0).bind fun t363 => ((psephosref01_shifted.f k l1 (wrap64 (t355 - t356))).bind fun t366 => (psephosref01_divMod.l0 k y360 t363 t366 (wrap64 (t355 - t356))))) = some (r1, r2) := by first | (rw [hy360]; with_reducible exact H) | (have H2_ := (Option.bind_some _ _).symm.trans H; rw [hy360]; with_reducible exact H2_) | (have H2_ := (Option.bind_some _ _).symm.trans H; with_reducible exact H2_) | with_reducible exact H | (rw [hy360]; exact H) | exact H
        have Ny360 := Aside0.mk hy360
        clear hy360
        replace H := Option.bind_eq_some_iff.mp H
        obtain ⟨t363, A110, H⟩ := H
        replace H : ((psephosref01_shifted.f k l1 (wrap64 (t355 - t356))).bind fun t366 => (psephosref01_divMod.l0 k y360 t363 t366 (wrap64 (t355 - t356)))) = some (r1, r2) := H
        have A11 := Aside0.mk A110
        clear A110
        replace H := Option.bind_eq_some_iff.mp H
        obtain ⟨t366, A120, H⟩ := H
        replace H : (psephosref01_divMod.l0 k y360 t363 t366 (wrap64 (t355 - t356))) = some (r1, r2) := H
        have A12 := Aside0.mk A120
        clear A120
        have H' := Aside0.mk H
        clear H
        go_enter Try.func77, Try.ntmps77
        try go_wp2_with (first | ((with_reducible refine gate_callee (f := 109) rfl ?_); refine goesL_ (some 12) rfl rfl Try.func109 (by kernel_rfl) rfl #[.slice A0 l0.length c0] rfl (by (try simp only [List.map_toArray, List.map_cons, List.map_nil]); first | done | rfl | (simp only [List.length_drop, List.length_take]; rfl)) ?_; (with_reducible refine (psephosref01_bits.calls k _ _ l0 t355 _ ?side1 ?side2 A3.out).mono ?_); (case side1 => repeat (first | exact HR0.out | (with_reducible refine Kd.C_alloc ?_ _) | (with_reducible refine Kd.C_drewN ?_ _) | (with_reducible refine Kd.C_drew ?_))); (case side2 => exact HC0.out); rintro e w' ⟨rfl, ⟨nd, rfl⟩⟩; refine ⟨_, rfl, ?_⟩) | ((with_reducible refine gate_callee (f := 109) rfl ?_); refine goesL_ (some 14) rfl rfl Try.func109 (by kernel_rfl) rfl #[.slice A1 l1.length c1] rfl (by (try simp only [List.map_toArray, List.map_cons, List.map_nil]); first | done | rfl | (simp only [List.length_drop, List.length_take]; rfl)) ?_; (with_reducible refine (psephosref01_bits.calls k _ _ l1 t356 _ ?side1 ?side2 A4.out).mono ?_); (case side1 => repeat (first | exact HR1.out | (with_reducible refine Kd.C_alloc ?_ _) | (with_reducible refine Kd.C_drewN ?_ _) | (with_reducible refine Kd.C_drew ?_))); (case side2 => exact HC1.out); rintro e w' ⟨rfl, ⟨nd, rfl⟩⟩; refine ⟨_, rfl, ?_⟩))
        refine start_ (n := 8) (S := fun w' => True) (ds := []) #[false, false, false, false, false, false, false, false] (by kernel_rfl) rfl rfl trivial (fun hHeld => ?_); refine with_tabW psephosref01_divMod.tab4 psephosref01_divMod.bits4 (fun HT_ HW_ => ?_)
        generalize hgen_ : World.drew _ = w13 at hHeld ⊢
        have n0_ := Aside0.mk (show Below w.heap.size w w13 from by rw [← hgen_]; repeat (first | exact HB.out | apply below_drew1 | apply pw_below_drewN | apply below_alloc))
        clear HB hgen_
        have HB := n0_
        clear n0_
        refine pure_ (i := 0) (N := some 20) (v := ?_) (a' := ?_) #[true, false, false, false, false, false, false, false] rfl rfl (any_of HT_.out (by kernel_rfl)) (fun _ _ _ h => h) (Or.inl ⟨by rfl, ?_⟩) ?_ ?_
        rotate_left
        · intro w'
          go_simp
          with_reducible rfl
        rotate_left
        · simp only [Act.put, List.setIfInBounds_toArray, List.set_cons_zero, List.set_cons_succ, i64_w, i32_w]
          rfl
        refine pure_ (i := 1) (N := some 21) (v := ?_) (a' := ?_) #[true, true, false, false, false, false, false, false] rfl rfl (any_of HT_.out (by kernel_rfl)) (fun _ _ _ h => h) (Or.inl ⟨by rfl, ?_⟩) ?_ ?_
        rotate_left
        · intro w'
          go_simp
          with_reducible rfl
        rotate_left
        · simp only [Act.put, List.setIfInBounds_toArray, List.set_cons_zero, List.set_cons_succ, i64_w, i32_w]
          rfl
        refine pure_ (i := 2) (N := some 22) (v := ?_) (a' := ?_) #[true, true, true, false, false, false, false, false] rfl rfl (any_of HT_.out (by kernel_rfl)) (fun _ _ _ h => h) (Or.inl ⟨by rfl, ?_⟩) ?_ ?_
        rotate_left
        · intro w'
          go_simp
          with_reducible rfl
        rotate_left
        · simp only [Act.put, List.setIfInBounds_toArray, List.set_cons_zero, List.set_cons_succ, i64_w, i32_w]
          rfl
        refine pure_ (i := 4) (N := some 24) (v := ?_) (a' := ?_) #[true, true, true, false, true, false, false, false] rfl rfl (any_of HT_.out (by kernel_rfl)) (fun _ _ _ h => h) (Or.inl ⟨by rfl, ?_⟩) ?_ ?_
        rotate_left
        · intro w'
          go_simp
          with_reducible rfl
        rotate_left
        · simp only [Act.put, List.setIfInBounds_toArray, List.set_cons_zero, List.set_cons_succ, i64_w, i32_w]
          rfl
        refine join_ (σ := Value × Value) 2 #[true, true, true, true, true, true, false, false] (fun s_ => [(23, s_.1), (25, s_.2)]) (fun s_ w' => (Kd.R (Kd.int .u32) 64 w' w.heap.size (fun k_ => some k_ ≠ (s_.2 : Value).ownBlock) s_.1 y360) ∧ (Kd.R (Kd.int .u32) 64 w' w.heap.size (fun k_ => some k_ ≠ (s_.1 : Value).ownBlock) s_.2 t363) ∧ (Below w.heap.size w w')) ?_ ?_
        rotate_left
        · intro hCont
          refine two_ (i := 3) (j := 5) (Ni := some 23) (Nj := some 25) #[true, true, true, true, true, false, false, false] #[true, true, true, false, true, true, false, false] rfl rfl rfl rfl (two_of HT_.out (by kernel_rfl)) (by decide) (by decide) (fun K hK => ?_) (fun K hK => ?_)
          · skip
            refine Kd.R_make_step (Kd.int .u32) _ 64 (by rfl) (N := 23) rfl 37 _ _ rfl ji8 rfl rfl Try.underlying37 (.int .u32 0) 4 info64 rfl (by decide) (by omega) 0 (ok := fun _ => True) (okp := fun _ => True) rfl (fun _ hk => hk) trivial (of_decide_eq_true (by first | (with_reducible assumption) | assumption)) (Nat.le_trans (Nat.mul_le_mul_right _ (of_decide_eq_true (by first | (with_reducible assumption) | assumption) : ji8.toNat ≤ 70368744177664)) (by omega)) (Below.refl _ _) (Nat.le_refl _) ?_
            intro v361 w14 ho15 hb hg_ hnew_
            clear hg_ hnew_
            (first | rw [← Ny360.out] at ho15 | (simp only [Int.reduceToNat] at ho15; rw [← Ny360.out] at ho15))
            have n0_ := Aside0.mk (Kd.R_lower ho15 (below_size (by repeat (first | (with_reducible first | exact HB.out | apply below_alloc | apply pw_below_drewN | apply below_drew1) | exact HB.out))))
            have n1_ := Aside0.mk (below_step (by repeat (first | (with_reducible first | exact HB.out | apply below_alloc | apply pw_below_drewN | apply below_drew1) | exact HB.out)) hb)
            clear HB
            have HO362 := n0_
            have HB := n1_
            clear n0_ n1_
            clear hb ho15
            refine hK.out _ _ trivial (fun hHeld => ?_)
            clear hK K
            refine norm_ (a' := ?_) ?_ ?_
            rotate_left
            · show Act.put _ (some 23) _ = _
              simp only [Act.put, List.setIfInBounds_toArray, List.set_cons_zero, List.set_cons_succ, i64_w, i32_w]
              rfl
            refine one_ (i := 5) (N := some 25) #[true, true, true, true, true, true, false, false] rfl rfl (one_of HT_.out (by kernel_rfl)) (by decide) (fun K hK => ?_)
            refine goes_ Try.func107 (by kernel_rfl) rfl #[.slice A0 l0.length c0] (by rfl) rfl rfl (by (try simp only [List.map_toArray, List.map_cons, List.map_nil]); first | done | rfl | (simp only [List.length_drop, List.length_take]; rfl)) ?_
            with_reducible refine (psephosref01_trim.calls k _ _ l0 t363 _ ?side1 ?side2 A11.out).mono ?_
            (case side1 => repeat (first | exact (Kd.C_below HR0.out HB.out) | (with_reducible refine Kd.C_alloc ?_ _) | (with_reducible refine Kd.C_drewN ?_ _) | (with_reducible refine Kd.C_drew ?_)))
            (case side2 => exact HC0.out)
            rintro e w16 ⟨v364, rfl, ho0, hb⟩
            refine ⟨_, rfl, ?_⟩
            have n0_ := Aside0.mk (Kd.R_elder' (by (with_reducible repeat (first | apply Kd.R_alloc | apply Kd.R_drewN | apply Kd.R_drew)); exact HO362.out) (Kd.R_base ho0) hb)
            have n1_ := Aside0.mk (Kd.R_lower (Kd.R_new' ho0 (Kd.R_lt (by (with_reducible repeat (first | apply Kd.R_alloc | apply Kd.R_drewN | apply Kd.R_drew)); exact HO362.out))) (below_size (by repeat (first | (with_reducible first | exact HB.out | apply below_alloc | apply pw_below_drewN | apply below_drew1) | exact HB.out))))
            have n2_ := Aside0.mk (below_step (by repeat (first | (with_reducible first | exact HB.out | apply below_alloc | apply pw_below_drewN | apply below_drew1) | exact HB.out)) hb)
            clear HO362
            clear HB
            have HO362 := n0_
            have HO365 := n1_
            have HB := n2_
            clear n0_ n1_ n2_
            (try clear hb)
            (try clear hb2)
            (try clear hk)
            (try clear hi)
            (try clear ho0)
            refine hK.out _ _ trivial (fun hHeld => ?_)
            clear hK K
            refine norm_ (a' := ?_) ?_ ?_
            rotate_left
            · show Act.put _ (some 25) _ = _
              simp only [Act.put, List.setIfInBounds_toArray, List.set_cons_zero, List.set_cons_succ, i64_w, i32_w]
              rfl
            exact norm_ (by simp only [putAll, Act.put, List.setIfInBounds_toArray, List.set_cons_zero, List.set_cons_succ]) (hCont (v361, v364) _ ⟨(by (with_reducible repeat (first | apply Kd.R_alloc | apply Kd.R_drewN | apply Kd.R_drew)); exact Kd.R_mono HO362.out (fun _ hk => hk.2)), (by (with_reducible repeat (first | apply Kd.R_alloc | apply Kd.R_drewN | apply Kd.R_drew)); exact Kd.R_mono HO365.out (fun _ hk => hk.2)), (by repeat (first | (with_reducible first | exact HB.out | apply below_alloc | apply pw_below_drewN | apply below_drew1) | exact HB.out))⟩)
          · skip
            refine goes_ Try.func107 (by kernel_rfl) rfl #[.slice A0 l0.length c0] (by rfl) rfl rfl (by (try simp only [List.map_toArray, List.map_cons, List.map_nil]); first | done | rfl | (simp only [List.length_drop, List.length_take]; rfl)) ?_
            with_reducible refine (psephosref01_trim.calls k _ _ l0 t363 _ ?side1 ?side2 A11.out).mono ?_
            (case side1 => repeat (first | exact (Kd.C_below HR0.out HB.out) | (with_reducible refine Kd.C_alloc ?_ _) | (with_reducible refine Kd.C_drewN ?_ _) | (with_reducible refine Kd.C_drew ?_)))
            (case side2 => exact HC0.out)
            rintro e w14 ⟨v364, rfl, ho0, hb⟩
            refine ⟨_, rfl, ?_⟩
            have n0_ := Aside0.mk (Kd.R_lower ho0 (below_size (by repeat (first | (with_reducible first | exact HB.out | apply below_alloc | apply pw_below_drewN | apply below_drew1) | exact HB.out))))
            have n1_ := Aside0.mk (below_step (by repeat (first | (with_reducible first | exact HB.out | apply below_alloc | apply pw_below_drewN | apply below_drew1) | exact HB.out)) hb)
            clear HB
            have HO365 := n0_
            have HB := n1_
            clear n0_ n1_
            (try clear hb)
            (try clear hb2)
            (try clear hk)
            (try clear hi)
            (try clear ho0)
            refine hK.out _ _ trivial (fun hHeld => ?_)
            clear hK K
            refine norm_ (a' := ?_) ?_ ?_
            rotate_left
            · show Act.put _ (some 25) _ = _
              simp only [Act.put, List.setIfInBounds_toArray, List.set_cons_zero, List.set_cons_succ, i64_w, i32_w]
              rfl
            refine one_ (i := 3) (N := some 23) #[true, true, true, true, true, true, false, false] rfl rfl (one_of HT_.out (by kernel_rfl)) (by decide) (fun K hK => ?_)
            refine Kd.R_make_step (Kd.int .u32) _ 64 (by rfl) (N := 23) rfl 37 _ _ rfl ji8 rfl rfl Try.underlying37 (.int .u32 0) 4 info64 rfl (by decide) (by omega) 0 (ok := fun _ => True) (okp := fun _ => True) rfl (fun _ hk => hk) trivial (of_decide_eq_true (by first | (with_reducible assumption) | assumption)) (Nat.le_trans (Nat.mul_le_mul_right _ (of_decide_eq_true (by first | (with_reducible assumption) | assumption) : ji8.toNat ≤ 70368744177664)) (by omega)) (Below.refl _ _) (Nat.le_refl _) ?_
            intro v361 w15 ho16 hb hg_ hnew_
            clear hg_ hnew_
            (first | rw [← Ny360.out] at ho16 | (simp only [Int.reduceToNat] at ho16; rw [← Ny360.out] at ho16))
            have n0_ := Aside0.mk (Kd.R_elder' (by (with_reducible repeat (first | apply Kd.R_alloc | apply Kd.R_drewN | apply Kd.R_drew)); exact HO365.out) (Kd.R_base ho16) hb)
            have n1_ := Aside0.mk (Kd.R_lower (Kd.R_new' ho16 (Kd.R_lt (by (with_reducible repeat (first | apply Kd.R_alloc | apply Kd.R_drewN | apply Kd.R_drew)); exact HO365.out))) (below_size (by repeat (first | (with_reducible first | exact HB.out | apply below_alloc | apply pw_below_drewN | apply below_drew1) | exact HB.out))))
            have n2_ := Aside0.mk (below_step (by repeat (first | (with_reducible first | exact HB.out | apply below_alloc | apply pw_below_drewN | apply below_drew1) | exact HB.out)) hb)
            clear HO365
            clear HB
            have HO365 := n0_
            have HO362 := n1_
            have HB := n2_
            clear n0_ n1_ n2_
            clear hb ho16
            refine hK.out _ _ trivial (fun hHeld => ?_)
            clear hK K
            refine norm_ (a' := ?_) ?_ ?_
            rotate_left
            · show Act.put _ (some 23) _ = _
              simp only [Act.put, List.setIfInBounds_toArray, List.set_cons_zero, List.set_cons_succ, i64_w, i32_w]
              rfl
            exact norm_ (by simp only [putAll, Act.put, List.setIfInBounds_toArray, List.set_cons_zero, List.set_cons_succ]) (hCont (v361, v364) _ ⟨(by (with_reducible repeat (first | apply Kd.R_alloc | apply Kd.R_drewN | apply Kd.R_drew)); exact Kd.R_mono HO362.out (fun _ hk => hk.2)), (by (with_reducible repeat (first | apply Kd.R_alloc | apply Kd.R_drewN | apply Kd.R_drew)); exact Kd.R_mono HO365.out (fun _ hk => hk.2)), (by repeat (first | (with_reducible first | exact HB.out | apply below_alloc | apply pw_below_drewN | apply below_drew1) | exact HB.out))⟩)
        rintro ⟨v361, v364⟩ w17 ⟨h0_, h1_, h2_⟩
        have n0_ : Aside0 (Kd.R (Kd.int .u32) 64 w17 w.heap.size (fun k_ => some k_ ≠ (v364 : Value).ownBlock) v361 y360) := ⟨h0_⟩
        have n1_ : Aside0 (Kd.R (Kd.int .u32) 64 w17 w.heap.size (fun k_ => some k_ ≠ (v361 : Value).ownBlock) v364 t363) := ⟨h1_⟩
        have n2_ : Aside0 (Below w.heap.size w w17) := ⟨h2_⟩
        clear HB
        clear h0_ h1_ h2_
        have HO362 := n0_
        have HO365 := n1_
        have HB := n2_
        clear n0_ n1_ n2_
        have hHeld := trivial
        refine norm_ (a' := ?_) ?_ ?_
        rotate_left
        · simp only [putAll, Act.put, List.setIfInBounds_toArray, List.set_cons_zero, List.set_cons_succ]
          rfl
        refine pure_ (i := 6) (N := some 7) (v := ?_) (a' := ?_) #[true, true, true, true, true, true, true, false] rfl rfl (any_of HT_.out (by kernel_rfl)) (fun _ _ _ h => h) (Or.inl ⟨by rfl, ?_⟩) ?_ ?_
        rotate_left
        · intro w'
          go_simp
          with_reducible rfl
        rotate_left
        · simp only [Act.put, List.setIfInBounds_toArray, List.set_cons_zero, List.set_cons_succ, i64_w, i32_w]
          rfl
        refine pure_ (i := 7) (N := some 8) (v := ?_) (a' := ?_) #[true, true, true, true, true, true, true, true] rfl rfl (any_of HT_.out (by kernel_rfl)) (fun _ _ _ h => h) (Or.inl ⟨by rfl, ?_⟩) ?_ ?_
        rotate_left
        · intro w'
          go_simp
          with_reducible rfl
        rotate_left
        · simp only [Act.put, List.setIfInBounds_toArray, List.set_cons_zero, List.set_cons_succ, i64_w, i32_w]
          rfl
        refine done_ (done_of HT_.out (by kernel_rfl)) ?_
        try go_wp2_with (first | ((with_reducible refine gate_callee (f := 110) rfl ?_); refine goesL_ (some 28) rfl rfl Try.func110 (by kernel_rfl) rfl #[.slice A1 l1.length c1, .int .i64 (wrap64 (t355 - t356))] rfl (by (try simp only [List.map_toArray, List.map_cons, List.map_nil]); first | done | rfl | (simp only [List.length_drop, List.length_take]; rfl)) ?_; (with_reducible refine (psephosref01_shifted.calls k _ _ l1 (wrap64 (t355 - t356)) t366 _ ?side1 ?side2 A12.out).mono ?_); (case side1 => repeat (first | exact (Kd.C_below HR1.out HB.out) | (with_reducible refine Kd.C_alloc ?_ _) | (with_reducible refine Kd.C_drewN ?_ _) | (with_reducible refine Kd.C_drew ?_))); (case side2 => exact HC1.out); rintro e w18 ⟨v367, rfl, ho0, hb⟩; refine ⟨_, rfl, ?_⟩; have n0_ := Aside0.mk (Kd.R_elder' (by (with_reducible repeat (first | apply Kd.R_alloc | apply Kd.R_drewN | apply Kd.R_drew)); exact HO362.out) (Kd.R_base ho0) hb); have n1_ := Aside0.mk (Kd.R_elder' (by (with_reducible repeat (first | apply Kd.R_alloc | apply Kd.R_drewN | apply Kd.R_drew)); exact HO365.out) (Kd.R_base ho0) hb); have n2_ := Aside0.mk (Kd.R_lower (Kd.R_new' (Kd.R_new' ho0 (Kd.R_lt (by (with_reducible repeat (first | apply Kd.R_alloc | apply Kd.R_drewN | apply Kd.R_drew)); exact HO362.out))) (Kd.R_lt (by (with_reducible repeat (first | apply Kd.R_alloc | apply Kd.R_drewN | apply Kd.R_drew)); exact HO365.out))) (below_size (by repeat (first | (with_reducible first | exact HB.out | apply below_alloc | apply pw_below_drewN | apply below_drew1) | exact HB.out)))); have n3_ := Aside0.mk (below_step (by repeat (first | (with_reducible first | exact HB.out | apply below_alloc | apply pw_below_drewN | apply below_drew1) | exact HB.out)) hb); clear HO362; clear HO365; clear HB; have HO362 := n0_; have HO365 := n1_; have HO368 := n2_; have HB := n3_; clear n0_ n1_ n2_ n3_; (try clear hb); (try clear hb2); (try clear hk); (try clear hi); (try clear ho0)))
        go_loopg [8, 9, 10] k (fun kq v8 v9 v10 w' => ∃ (x7_1 : List Int) (x8_1 : List Int) (x9_1 : List Int) (x10_1 : Int), v10 = .int .i64 x10_1 ∧ Aside0 (psephosref01_divMod.l0 kq x7_1 x8_1 x9_1 x10_1 = some (r1, r2)) ∧ Aside0 (kq ≤ k) ∧ Aside0 (Kd.R (Kd.int .u32) 64 w' w.heap.size (fun k_ => some k_ ≠ (v8 : Value).ownBlock ∧ some k_ ≠ (v9 : Value).ownBlock) v361 x7_1) ∧ Aside0 (Kd.R (Kd.int .u32) 64 w' w.heap.size (fun k_ => some k_ ≠ (v361 : Value).ownBlock ∧ some k_ ≠ (v9 : Value).ownBlock) v8 x8_1) ∧ Aside0 (Kd.R (Kd.int .u32) 64 w' w.heap.size (fun k_ => some k_ ≠ (v361 : Value).ownBlock ∧ some k_ ≠ (v8 : Value).ownBlock) v9 x9_1) ∧ Aside0 (Below w.heap.size w w'))
        case atStart => exact ⟨(y360), (t363), (t366), (wrap64 (t355 - t356)), (by first | rfl | (simp; done) | (simp [*]; done)), H', ⟨Nat.le_refl _⟩, ⟨by (with_reducible repeat (first | apply Kd.R_alloc | apply Kd.R_drewN | apply Kd.R_drew)); exact HO362.out⟩, ⟨by (with_reducible repeat (first | apply Kd.R_alloc | apply Kd.R_drewN | apply Kd.R_drew)); exact HO365.out⟩, ⟨by (with_reducible repeat (first | apply Kd.R_alloc | apply Kd.R_drewN | apply Kd.R_drew)); exact Kd.R_mono HO368.out (fun _ hk => ⟨hk.1.2, hk.2⟩)⟩, ⟨by repeat (first | (with_reducible first | exact HB.out | apply below_alloc | apply pw_below_drewN | apply below_drew1) | exact HB.out)⟩⟩
        case round =>
          clear H'
          try clear c1
          try clear p2
          try clear c5
          try clear c5b0
          try clear p6
          try clear c7
          try clear c9
          try clear c9b0
          try clear c9b1
          try clear c10
          try clear c10b0
          try clear c10b1
          try clear c11
          obtain ⟨x7_1, x8_1, x9_1, x10_1, rfl, HA, HK1, HO_7, HO_8, HO_9, HB⟩ := hrel
          cases gk with
          | zero => exact absurd HA.out (by simp [psephosref01_divMod.l0])
          | succ k1 =>
            have H := HA.out
            clear HA
            simp only [psephosref01_divMod.l0] at H
            by_cases c19 : x10_1 ≥ 0
            · rw [if_pos c19] at H
              have c19b0 : decide (0 ≤ x10_1) = true := decide_eq_true c19
              clear c19
              replace H := Option.bind_eq_some_iff.mp H
              obtain ⟨t372, A200, H⟩ := H
              replace H : (if t372 ≥ 0 then ((psephosref01_sub.f k1 x8_1 x9_1).bind fun t373 => (if 0 ≤ (wrap64 (Int.tdiv x10_1 32)) then (if (wrap64 (Int.tdiv x10_1 32)) < (x7_1.length : Int) then (if 0 ≤ (IntKind.u64.wrap (Int.tmod x10_1 32)) then ((psephosref01_half.f k1 x9_1).bind fun t378 => (psephosref01_divMod.l0 k1 (x7_1.set ((wrap64 (Int.tdiv x10_1 32)) : Int).toNat (Go.bits .or .u32 (rd x7_1 (wrap64 (Int.tdiv x10_1 32))) (shl .u32 1 (IntKind.u64.wrap (Int.tmod x10_1 32))))) t373 t378 (wrap64 (x10_1 - 1)))) else (none)) else (none)) else (none))) else ((psephosref01_half.f k1 x9_1).bind fun t381 => (psephosref01_divMod.l0 k1 x7_1 x8_1 t381 (wrap64 (x10_1 - 1))))) = some (r1, r2) := H
              have A20 := Aside0.mk A200
              clear A200
              by_cases c21 : t372 ≥ 0
              · rw [if_pos c21] at H
                have c21b0 : decide (0 ≤ t372) = true := decide_eq_true c21
                clear c21
                replace H := Option.bind_eq_some_iff.mp H
                obtain ⟨t373, A220, H⟩ := H
                replace H : (if 0 ≤ (wrap64 (Int.tdiv x10_1 32)) then (if (wrap64 (Int.tdiv x10_1 32)) < (x7_1.length : Int) then (if 0 ≤ (IntKind.u64.wrap (Int.tmod x10_1 32)) then ((psephosref01_half.f k1 x9_1).bind fun t378 => (psephosref01_divMod.l0 k1 (x7_1.set ((wrap64 (Int.tdiv x10_1 32)) : Int).toNat (Go.bits .or .u32 (rd x7_1 (wrap64 (Int.tdiv x10_1 32))) (shl .u32 1 (IntKind.u64.wrap (Int.tmod x10_1 32))))) t373 t378 (wrap64 (x10_1 - 1)))) else (none)) else (none)) else (none)) = some (r1, r2) := H
                have A22 := Aside0.mk A220
                clear A220
                obtain ⟨ji23, hji23⟩ : ∃ j_ : Int, (wrap64 (Int.tdiv x10_1 32)) = j_ := ⟨_, rfl⟩
                replace H : (if 0 ≤ (ji23) then (if (ji23) < (x7_1.length : Int) then (if 0 ≤ (IntKind.u64.wrap (Int.tmod x10_1 32)) then ((psephosref01_half.f k1 x9_1).bind fun t378 => (psephosref01_divMod.l0 k1 (x7_1.set ((ji23) : Int).toNat (Go.bits .or .u32 (rd x7_1 (ji23)) (shl .u32 1 (IntKind.u64.wrap (Int.tmod x10_1 32))))) t373 t378 (wrap64 (x10_1 - 1)))) else (none)) else (none)) else (none)) = some (r1, r2) := by first | (rw [hji23] at H; exact H) | (simp only [hji23] at H ⊢; exact H)
                (try rw [hji23] at A20)
                (try rw [hji23] at A22)
                have hji23w : (IntKind.i64.wrap (Int.tdiv x10_1 32)) = ji23 := (i64_w _).trans hji23
                by_cases c24 : 0 ≤ (ji23)
                · rw [if_pos c24] at H
                  have c24b0 : decide (0 ≤ (ji23)) = true := decide_eq_true c24
                  clear c24
                  by_cases c25 : (ji23) < (x7_1.length : Int)
                  · rw [if_pos c25] at H
                    have c25b0 : decide ((ji23) < (x7_1.length : Int)) = true := decide_eq_true c25
                    clear c25
                    obtain ⟨ji26, hji26⟩ : ∃ j_ : Int, (IntKind.u64.wrap (Int.tmod x10_1 32)) = j_ := ⟨_, rfl⟩
                    replace H : (if 0 ≤ (ji26) then ((psephosref01_half.f k1 x9_1).bind fun t378 => (psephosref01_divMod.l0 k1 (x7_1.set ((ji23) : Int).toNat (Go.bits .or .u32 (rd x7_1 (ji23)) (shl .u32 1 (ji26)))) t373 t378 (wrap64 (x10_1 - 1)))) else (none)) = some (r1, r2) := by first | (rw [hji26] at H; exact H) | (simp only [hji26] at H ⊢; exact H)
                    (try rw [hji26] at A20)
                    (try rw [hji26] at A22)
                    by_cases c27 : 0 ≤ (ji26)
                    · rw [if_pos c27] at H
                      have c27b0 := eq_true c27
                      have c27b1 : decide (0 ≤ (ji26)) = true := decide_eq_true c27
                      clear c27
                      obtain ⟨ji28, hji28⟩ : ∃ j_ : Int, (shl .u32 1 (ji26)) = j_ := ⟨_, rfl⟩
                      replace H : ((psephosref01_half.f k1 x9_1).bind fun t378 => (psephosref01_divMod.l0 k1 (x7_1.set ((ji23) : Int).toNat (Go.bits .or .u32 (rd x7_1 (ji23)) (ji28))) t373 t378 (wrap64 (x10_1 - 1)))) = some (r1, r2) := by first | (rw [hji28] at H; exact H) | (simp only [hji28] at H ⊢; exact H)
                      (try rw [hji28] at A20)
                      (try rw [hji28] at A22)
                      have hji28_ : (IntKind.u32.wrap (1 * 2 ^ min (ji26).toNat 32)) = ji28 := hji28
                      have hji28z : (ji26) ≤ 32 → (IntKind.u32.wrap (1 * 2 ^ (ji26).toNat)) = ji28 := shl_small hji28
                      have hji28u : (IntKind.u32.wrap (2 ^ min (ji26).toNat 32)) = ji28 := by have h_ := hji28_; rw [Int.one_mul] at h_; exact h_
                      have hji28v : (ji26) ≤ 32 → (IntKind.u32.wrap (2 ^ (ji26).toNat)) = ji28 := fun hle_ => by have h_ := hji28z hle_; rw [Int.one_mul] at h_; exact h_
                      obtain ⟨y377, hy377⟩ : ∃ y_ : List Int, y_ = (x7_1.set ((ji23) : Int).toNat (Go.bits .or .u32 (rd x7_1 (ji23)) (ji28))) := ⟨_, rfl⟩
                      replace H : ((psephosref01_half.f k1 x9_1).bind fun t378 => (psephosref01_divMod.l0 k1 y377 t373 t378 (wrap64 (x10_1 - 1)))) = some (r1, r2) := by first | (rw [hy377]; with_reducible exact H) | (have H2_ := (Option.bind_some _ _).symm.trans H; rw [hy377]; with_reducible exact H2_) | (have H2_ := (Option.bind_some _ _).symm.trans H; with_reducible exact H2_) | with_reducible exact H | (rw [hy377]; exact H) | exact H
                      have Ny377 := Aside0.mk hy377
                      clear hy377
                      replace H := Option.bind_eq_some_iff.mp H
                      obtain ⟨t378, A300, H⟩ := H
                      replace H : (psephosref01_divMod.l0 k1 y377 t373 t378 (wrap64 (x10_1 - 1))) = some (r1, r2) := H
                      have A30 := Aside0.mk A300
                      clear A300
                      have H' := Aside0.mk H
                      clear H
                      obtain ⟨Ao31, co31, eo31⟩ := Kd.R_slice HO_8.out
                      subst eo31
                      obtain ⟨Ao32, co32, eo32⟩ := Kd.R_slice HO_9.out
                      subst eo32
                      go_wp2_with (first | ((with_reducible refine gate_callee (f := 78) rfl ?_); refine goesL_ (some 36) rfl rfl Try.func78 (by kernel_rfl) rfl #[.slice Ao31 x8_1.length co31, .slice Ao32 x9_1.length co32] rfl (by (try simp only [List.map_toArray, List.map_cons, List.map_nil]); first | done | rfl | (simp only [List.length_drop, List.length_take]; rfl)) ?_; (with_reducible refine (psephosref01_cmp.calls k1 _ _ x8_1 _ _ x9_1 t372 _ ?side1 ?side2 ?side3 ?side4 A20.out).mono ?_); (case side1 => repeat (first | exact (Kd.R_reads' HO_8.out).2.2 | (with_reducible refine Kd.C_alloc ?_ _) | (with_reducible refine Kd.C_drewN ?_ _) | (with_reducible refine Kd.C_drew ?_))); (case side2 => exact (Kd.R_reads' HO_8.out).2.1); (case side3 => repeat (first | exact (Kd.R_reads' HO_9.out).2.2 | (with_reducible refine Kd.C_alloc ?_ _) | (with_reducible refine Kd.C_drewN ?_ _) | (with_reducible refine Kd.C_drew ?_))); (case side4 => exact (Kd.R_reads' HO_9.out).2.1); rintro e w' ⟨rfl, ⟨nd, rfl⟩⟩; refine ⟨_, rfl, ?_⟩; (try (rw [drewN_self wr]; generalize hq_ : World.drewN wr _ = wr; have n0_ : Aside0 (Kd.R (Kd.int .u32) 64 wr w.heap.size (fun k_ => some k_ ≠ (.slice Ao31 x8_1.length co31 : Value).ownBlock ∧ some k_ ≠ (.slice Ao32 x9_1.length co32 : Value).ownBlock) v361 x7_1) := ⟨by rw [← hq_]; exact (by (with_reducible repeat (first | apply Kd.R_alloc | apply Kd.R_drewN | apply Kd.R_drew)); exact HO_7.out)⟩; have n1_ : Aside0 (Kd.R (Kd.int .u32) 64 wr w.heap.size (fun k_ => some k_ ≠ (v361 : Value).ownBlock ∧ some k_ ≠ (.slice Ao32 x9_1.length co32 : Value).ownBlock) (.slice Ao31 x8_1.length co31) x8_1) := ⟨by rw [← hq_]; exact (by (with_reducible repeat (first | apply Kd.R_alloc | apply Kd.R_drewN | apply Kd.R_drew)); exact HO_8.out)⟩; have n2_ : Aside0 (Kd.R (Kd.int .u32) 64 wr w.heap.size (fun k_ => some k_ ≠ (v361 : Value).ownBlock ∧ some k_ ≠ (.slice Ao31 x8_1.length co31 : Value).ownBlock) (.slice Ao32 x9_1.length co32) x9_1) := ⟨by rw [← hq_]; exact (by (with_reducible repeat (first | apply Kd.R_alloc | apply Kd.R_drewN | apply Kd.R_drew)); exact HO_9.out)⟩; have n3_ : Aside0 (Below w.heap.size w wr) := ⟨by rw [← hq_]; exact (by repeat (first | (with_reducible first | exact HB.out | apply below_alloc | apply pw_below_drewN | apply below_drew1) | exact HB.out))⟩; clear HO_7 HO_8 HO_9 HB hq_; have HO_7 := n0_; have HO_8 := n1_; have HO_9 := n2_; have HB := n3_; clear n0_ n1_ n2_ n3_))) | ((with_reducible refine gate_callee (f := 86) rfl ?_); refine goesL_ (some 40) rfl rfl Try.func86 (by kernel_rfl) rfl #[.slice Ao31 x8_1.length co31, .slice Ao32 x9_1.length co32] rfl (by (try simp only [List.map_toArray, List.map_cons, List.map_nil]); first | done | rfl | (simp only [List.length_drop, List.length_take]; rfl)) ?_; (with_reducible refine (psephosref01_sub.calls k1 _ _ x8_1 _ _ x9_1 t373 _ ?side1 ?side2 ?side3 ?side4 A22.out).mono ?_); (case side1 => repeat (first | exact (Kd.R_reads' HO_8.out).2.2 | (with_reducible refine Kd.C_alloc ?_ _) | (with_reducible refine Kd.C_drewN ?_ _) | (with_reducible refine Kd.C_drew ?_))); (case side2 => exact (Kd.R_reads' HO_8.out).2.1); (case side3 => repeat (first | exact (Kd.R_reads' HO_9.out).2.2 | (with_reducible refine Kd.C_alloc ?_ _) | (with_reducible refine Kd.C_drewN ?_ _) | (with_reducible refine Kd.C_drew ?_))); (case side4 => exact (Kd.R_reads' HO_9.out).2.1); rintro e w33 ⟨v374, rfl, ho0, hb⟩; refine ⟨_, rfl, ?_⟩; have n0_ := Aside0.mk (Kd.R_elder' (by (with_reducible repeat (first | apply Kd.R_alloc | apply Kd.R_drewN | apply Kd.R_drew)); exact HO_7.out) (Kd.R_base ho0) hb); have n1_ := Aside0.mk (Kd.R_elder' (by (with_reducible repeat (first | apply Kd.R_alloc | apply Kd.R_drewN | apply Kd.R_drew)); exact HO_8.out) (Kd.R_base ho0) hb); have n2_ := Aside0.mk (Kd.R_elder' (by (with_reducible repeat (first | apply Kd.R_alloc | apply Kd.R_drewN | apply Kd.R_drew)); exact HO_9.out) (Kd.R_base ho0) hb); have n3_ := Aside0.mk (Kd.R_lower (Kd.R_new' (Kd.R_new' (Kd.R_new' ho0 (Kd.R_lt (by (with_reducible repeat (first | apply Kd.R_alloc | apply Kd.R_drewN | apply Kd.R_drew)); exact HO_7.out))) (Kd.R_lt (by (with_reducible repeat (first | apply Kd.R_alloc | apply Kd.R_drewN | apply Kd.R_drew)); exact HO_8.out))) (Kd.R_lt (by (with_reducible repeat (first | apply Kd.R_alloc | apply Kd.R_drewN | apply Kd.R_drew)); exact HO_9.out))) (below_size (by repeat (first | (with_reducible first | exact HB.out | apply below_alloc | apply pw_below_drewN | apply below_drew1) | exact HB.out)))); have n4_ := Aside0.mk (below_step (by repeat (first | (with_reducible first | exact HB.out | apply below_alloc | apply pw_below_drewN | apply below_drew1) | exact HB.out)) hb); clear HO_7; clear HO_8; clear HO_9; clear HB; have HO_7 := n0_; have HO_8 := n1_; have HO_9 := n2_; have HO375 := n3_; have HB := n4_; clear n0_ n1_ n2_ n3_ n4_; (try clear hb); (try clear hb2); (try clear hk); (try clear hi); (try clear ho0); obtain ⟨Ao34, co34, eo34⟩ := Kd.R_slice HO_7.out; subst eo34; have p376 : 0 ≤ ((ji23) : Int) := of_decide_eq_true (by first | (with_reducible assumption) | assumption); have q376 : (ji23) < (x7_1.length : Int) := of_decide_eq_true (by first | (with_reducible assumption) | assumption); obtain ⟨ad376, e376, hx376_0⟩ := Kd.at_int (Kd.R_reads' HO_7.out).2.2 (ji23) p376 q376; cases e376; replace p376 := eq_true p376; replace q376 := eq_true q376; have p29 : 0 ≤ ((ji23) : Int) := of_decide_eq_true (by first | (with_reducible assumption) | assumption); have q29 : ((ji23) : Int) < ((x7_1.length : Int) : Int) := of_decide_eq_true (by first | (with_reducible assumption) | assumption); obtain ⟨go29, co29, eo29, gb29, gl29, cl29, HG29⟩ := Kd.R_form HO_7.out (by omega); (first | cases eo29 | (injection eo29 with ea_ en_ ec_; (first | subst ea_ | (injection ea_ with ea_; subst ea_)); subst ec_; clear en_)); have GB29 := Aside0.mk gb29; have GG29 := Aside0.mk HG29; clear gb29 gl29 HG29; (first | simp only [add_plain] at hx376_0 | skip); obtain ⟨hx29_0, hf29_0⟩ := Kd.R_celln 0 HO_7.out ((ji23) : Int) p29 q29; replace p29 := eq_true p29; replace q29 := eq_true q29; have n_ := Aside0.mk (Kd.R_mono (ok' := (fun k_ => some k_ ≠ (.slice Ao31 x8_1.length co31 : Value).ownBlock ∧ some k_ ≠ (.slice Ao32 x9_1.length co32 : Value).ownBlock ∧ some k_ ≠ (v374 : Value).ownBlock)) HO_7.out (fun k_ hk => ⟨hk.1.1, ⟨hk.1.2, hk.2⟩⟩)); clear HO_7; have HO_7 := n_; clear n_; obtain ⟨hy35_, hz35_⟩ := Kd.R_celln 0 HO_7.out ((ji23) : Int) (of_decide_eq_true (by first | (with_reducible assumption) | assumption)) (of_decide_eq_true (by first | (with_reducible assumption) | assumption)); have HP35 := Kd.R_putg HO_7.out ((ji23) : Int) (Go.bits .or .u32 (rd x7_1 (ji23)) (ji28))) | ((with_reducible refine gate_store (t := 64) (p := 54) rfl ?_); refine store_event (t := 64) (p := 54) (v := ?vo_w36) (w1 := (w33.setCell ⟨go29, ((ji23) : Int).toNat, none⟩ (.int .u32 (Go.bits .or .u32 (rd x7_1 (ji23)) (ji28))))) ?hg ?ho ?hn ?hr ?_; (case ho => rfl); (case hg => rfl); (case hn => rfl); (case hr => first | (go_simp; done) | (go_simp; rfl)); intro w36 hw; have hg : w33.grownBy w36 (some go29) := (by rw [hw]; exact HP35.2); have hp_ : Kd.R (Kd.int .u32) 64 w36 w.heap.size (fun k_ => some k_ ≠ (.slice Ao31 x8_1.length co31 : Value).ownBlock ∧ some k_ ≠ (.slice Ao32 x9_1.length co32 : Value).ownBlock ∧ some k_ ≠ (v374 : Value).ownBlock) (.slice (some ⟨go29, 0, none⟩) x7_1.length co34) y377 := (by rw [hw, Ny377.out]; exact HP35.1); clear HP35; have n0_ := Aside0.mk (hp_); have n1_ := Aside0.mk (Kd.R_after (v := (.slice (some ⟨go29, 0, none⟩) x7_1.length co34)) (v1 := (.slice (some ⟨go29, 0, none⟩) x7_1.length co34)) (ok := (fun k_ => some k_ ≠ (.slice Ao32 x9_1.length co32 : Value).ownBlock ∧ some k_ ≠ (v374 : Value).ownBlock)) (by (with_reducible repeat (first | apply Kd.R_alloc | apply Kd.R_drewN | apply Kd.R_drew)); exact Kd.R_mono HO_8.out (fun _ hk => ⟨⟨hk.1.2, hk.2⟩, hk.1.1⟩)) hg (.inl rfl)); have n2_ := Aside0.mk (Kd.R_after (v := (.slice (some ⟨go29, 0, none⟩) x7_1.length co34)) (v1 := (.slice (some ⟨go29, 0, none⟩) x7_1.length co34)) (ok := (fun k_ => some k_ ≠ (.slice Ao31 x8_1.length co31 : Value).ownBlock ∧ some k_ ≠ (v374 : Value).ownBlock)) (by (with_reducible repeat (first | apply Kd.R_alloc | apply Kd.R_drewN | apply Kd.R_drew)); exact Kd.R_mono HO_9.out (fun _ hk => ⟨⟨hk.1.2, hk.2⟩, hk.1.1⟩)) hg (.inl rfl)); have n3_ := Aside0.mk (Kd.R_after (v := (.slice (some ⟨go29, 0, none⟩) x7_1.length co34)) (v1 := (.slice (some ⟨go29, 0, none⟩) x7_1.length co34)) (ok := (fun k_ => some k_ ≠ (.slice Ao31 x8_1.length co31 : Value).ownBlock ∧ some k_ ≠ (.slice Ao32 x9_1.length co32 : Value).ownBlock)) (by (with_reducible repeat (first | apply Kd.R_alloc | apply Kd.R_drewN | apply Kd.R_drew)); exact Kd.R_mono HO375.out (fun _ hk => ⟨⟨hk.1.2, hk.2⟩, hk.1.1.2⟩)) hg (.inl rfl)); have n4_ := Aside0.mk ((by rw [hw]; exact below_set (HB.out) GB29.out : Below w.heap.size w w36)); clear HO_7; clear HO_8; clear HO_9; clear HO375; clear HB; have HO_7 := n0_; have HO_8 := n1_; have HO_9 := n2_; have HO375 := n3_; have HB := n4_; clear n0_ n1_ n2_ n3_ n4_; clear hg hw hp_) | ((with_reducible refine gate_callee (f := 111) rfl ?_); refine goesL_ (some 56) rfl rfl Try.func111 (by kernel_rfl) rfl #[.slice Ao32 x9_1.length co32] rfl (by (try simp only [List.map_toArray, List.map_cons, List.map_nil]); first | done | rfl | (simp only [List.length_drop, List.length_take]; rfl)) ?_; (with_reducible refine (psephosref01_half.calls k1 _ _ x9_1 t378 _ ?side1 ?side2 A30.out).mono ?_); (case side1 => repeat (first | exact (Kd.R_reads' HO_9.out).2.2 | (with_reducible refine Kd.C_alloc ?_ _) | (with_reducible refine Kd.C_drewN ?_ _) | (with_reducible refine Kd.C_drew ?_))); (case side2 => exact (Kd.R_reads' HO_9.out).2.1); rintro e w37 ⟨v379, rfl, ho0, hb⟩; refine ⟨_, rfl, ?_⟩; have n0_ := Aside0.mk (Kd.R_elder' (by (with_reducible repeat (first | apply Kd.R_alloc | apply Kd.R_drewN | apply Kd.R_drew)); exact HO_7.out) (Kd.R_base ho0) hb); have n1_ := Aside0.mk (Kd.R_elder' (by (with_reducible repeat (first | apply Kd.R_alloc | apply Kd.R_drewN | apply Kd.R_drew)); exact HO_8.out) (Kd.R_base ho0) hb); have n2_ := Aside0.mk (Kd.R_elder' (by (with_reducible repeat (first | apply Kd.R_alloc | apply Kd.R_drewN | apply Kd.R_drew)); exact HO_9.out) (Kd.R_base ho0) hb); have n3_ := Aside0.mk (Kd.R_elder' (by (with_reducible repeat (first | apply Kd.R_alloc | apply Kd.R_drewN | apply Kd.R_drew)); exact HO375.out) (Kd.R_base ho0) hb); have n4_ := Aside0.mk (Kd.R_lower (Kd.R_new' (Kd.R_new' (Kd.R_new' (Kd.R_new' ho0 (Kd.R_lt (by (with_reducible repeat (first | apply Kd.R_alloc | apply Kd.R_drewN | apply Kd.R_drew)); exact HO_7.out))) (Kd.R_lt (by (with_reducible repeat (first | apply Kd.R_alloc | apply Kd.R_drewN | apply Kd.R_drew)); exact HO_8.out))) (Kd.R_lt (by (with_reducible repeat (first | apply Kd.R_alloc | apply Kd.R_drewN | apply Kd.R_drew)); exact HO_9.out))) (Kd.R_lt (by (with_reducible repeat (first | apply Kd.R_alloc | apply Kd.R_drewN | apply Kd.R_drew)); exact HO375.out))) (below_size (by repeat (first | (with_reducible first | exact HB.out | apply below_alloc | apply pw_below_drewN | apply below_drew1) | exact HB.out)))); have n5_ := Aside0.mk (below_step (by repeat (first | (with_reducible first | exact HB.out | apply below_alloc | apply pw_below_drewN | apply below_drew1) | exact HB.out)) hb); clear HO_7; clear HO_8; clear HO_9; clear HO375; clear HB; have HO_7 := n0_; have HO_8 := n1_; have HO_9 := n2_; have HO375 := n3_; have HO380 := n4_; have HB := n5_; clear n0_ n1_ n2_ n3_ n4_ n5_; (try clear hb); (try clear hb2); (try clear hk); (try clear hi); (try clear ho0)))
                      go_roundg k1
                      case measure => have := HK1.out; omega
                      case rel => exact ⟨(y377), (t373), (t378), (wrap64 (x10_1 - 1)), (by first | rfl | (simp; done) | (simp [*]; done)), H', ⟨by have := HK1.out; omega⟩, ⟨by (with_reducible repeat (first | apply Kd.R_alloc | apply Kd.R_drewN | apply Kd.R_drew)); exact Kd.R_mono HO_7.out (fun _ hk => ⟨hk.1.2.2, hk.2⟩)⟩, ⟨by (with_reducible repeat (first | apply Kd.R_alloc | apply Kd.R_drewN | apply Kd.R_drew)); exact Kd.R_mono HO375.out (fun _ hk => ⟨hk.1.2, hk.2⟩)⟩, ⟨by (with_reducible repeat (first | apply Kd.R_alloc | apply Kd.R_drewN | apply Kd.R_drew)); exact Kd.R_mono HO380.out (fun _ hk => ⟨hk.1.1.1.2, hk.2⟩)⟩, ⟨by repeat (first | (with_reducible first | exact HB.out | apply below_alloc | apply pw_below_drewN | apply below_drew1) | exact HB.out)⟩⟩
                    · rw [if_neg c27] at H
                      exact absurd H (by simp)
                  · rw [if_neg c25] at H
                    exact absurd H (by simp)
                · rw [if_neg c24] at H
                  exact absurd H (by simp)
              · rw [if_neg c21] at H
                have c21b0 : decide (0 ≤ t372) = false := decide_eq_false c21
                clear c21
                replace H := Option.bind_eq_some_iff.mp H
                obtain ⟨t381, A380, H⟩ := H
                replace H : (psephosref01_divMod.l0 k1 x7_1 x8_1 t381 (wrap64 (x10_1 - 1))) = some (r1, r2) := H
                have A38 := Aside0.mk A380
                clear A380
                have H' := Aside0.mk H
                clear H
                obtain ⟨Ao39, co39, eo39⟩ := Kd.R_slice HO_8.out
                subst eo39
                obtain ⟨Ao40, co40, eo40⟩ := Kd.R_slice HO_9.out
                subst eo40
                go_wp2_with (first | ((with_reducible refine gate_callee (f := 78) rfl ?_); refine goesL_ (some 36) rfl rfl Try.func78 (by kernel_rfl) rfl #[.slice Ao39 x8_1.length co39, .slice Ao40 x9_1.length co40] rfl (by (try simp only [List.map_toArray, List.map_cons, List.map_nil]); first | done | rfl | (simp only [List.length_drop, List.length_take]; rfl)) ?_; (with_reducible refine (psephosref01_cmp.calls k1 _ _ x8_1 _ _ x9_1 t372 _ ?side1 ?side2 ?side3 ?side4 A20.out).mono ?_); (case side1 => repeat (first | exact (Kd.R_reads' HO_8.out).2.2 | (with_reducible refine Kd.C_alloc ?_ _) | (with_reducible refine Kd.C_drewN ?_ _) | (with_reducible refine Kd.C_drew ?_))); (case side2 => exact (Kd.R_reads' HO_8.out).2.1); (case side3 => repeat (first | exact (Kd.R_reads' HO_9.out).2.2 | (with_reducible refine Kd.C_alloc ?_ _) | (with_reducible refine Kd.C_drewN ?_ _) | (with_reducible refine Kd.C_drew ?_))); (case side4 => exact (Kd.R_reads' HO_9.out).2.1); rintro e w' ⟨rfl, ⟨nd, rfl⟩⟩; refine ⟨_, rfl, ?_⟩) | ((with_reducible refine gate_callee (f := 111) rfl ?_); refine goesL_ (some 56) rfl rfl Try.func111 (by kernel_rfl) rfl #[.slice Ao40 x9_1.length co40] rfl (by (try simp only [List.map_toArray, List.map_cons, List.map_nil]); first | done | rfl | (simp only [List.length_drop, List.length_take]; rfl)) ?_; (with_reducible refine (psephosref01_half.calls k1 _ _ x9_1 t381 _ ?side1 ?side2 A38.out).mono ?_); (case side1 => repeat (first | exact (Kd.R_reads' HO_9.out).2.2 | (with_reducible refine Kd.C_alloc ?_ _) | (with_reducible refine Kd.C_drewN ?_ _) | (with_reducible refine Kd.C_drew ?_))); (case side2 => exact (Kd.R_reads' HO_9.out).2.1); rintro e w41 ⟨v382, rfl, ho0, hb⟩; refine ⟨_, rfl, ?_⟩; have n0_ := Aside0.mk (Kd.R_elder' (by (with_reducible repeat (first | apply Kd.R_alloc | apply Kd.R_drewN | apply Kd.R_drew)); exact HO_7.out) (Kd.R_base ho0) hb); have n1_ := Aside0.mk (Kd.R_elder' (by (with_reducible repeat (first | apply Kd.R_alloc | apply Kd.R_drewN | apply Kd.R_drew)); exact HO_8.out) (Kd.R_base ho0) hb); have n2_ := Aside0.mk (Kd.R_elder' (by (with_reducible repeat (first | apply Kd.R_alloc | apply Kd.R_drewN | apply Kd.R_drew)); exact HO_9.out) (Kd.R_base ho0) hb); have n3_ := Aside0.mk (Kd.R_lower (Kd.R_new' (Kd.R_new' (Kd.R_new' ho0 (Kd.R_lt (by (with_reducible repeat (first | apply Kd.R_alloc | apply Kd.R_drewN | apply Kd.R_drew)); exact HO_7.out))) (Kd.R_lt (by (with_reducible repeat (first | apply Kd.R_alloc | apply Kd.R_drewN | apply Kd.R_drew)); exact HO_8.out))) (Kd.R_lt (by (with_reducible repeat (first | apply Kd.R_alloc | apply Kd.R_drewN | apply Kd.R_drew)); exact HO_9.out))) (below_size (by repeat (first | (with_reducible first | exact HB.out | apply below_alloc | apply pw_below_drewN | apply below_drew1) | exact HB.out)))); have n4_ := Aside0.mk (below_step (by repeat (first | (with_reducible first | exact HB.out | apply below_alloc | apply pw_below_drewN | apply below_drew1) | exact HB.out)) hb); clear HO_7; clear HO_8; clear HO_9; clear HB; have HO_7 := n0_; have HO_8 := n1_; have HO_9 := n2_; have HO383 := n3_; have HB := n4_; clear n0_ n1_ n2_ n3_ n4_; (try clear hb); (try clear hb2); (try clear hk); (try clear hi); (try clear ho0)))
                go_roundg k1
                case measure => have := HK1.out; omega
                case rel => exact ⟨(x7_1), (x8_1), (t381), (wrap64 (x10_1 - 1)), (by first | rfl | (simp; done) | (simp [*]; done)), H', ⟨by have := HK1.out; omega⟩, ⟨by (with_reducible repeat (first | apply Kd.R_alloc | apply Kd.R_drewN | apply Kd.R_drew)); exact Kd.R_mono HO_7.out (fun _ hk => ⟨hk.1.1, hk.2⟩)⟩, ⟨by (with_reducible repeat (first | apply Kd.R_alloc | apply Kd.R_drewN | apply Kd.R_drew)); exact Kd.R_mono HO_8.out (fun _ hk => ⟨hk.1.1, hk.2⟩)⟩, ⟨by (with_reducible repeat (first | apply Kd.R_alloc | apply Kd.R_drewN | apply Kd.R_drew)); exact Kd.R_mono HO383.out (fun _ hk => ⟨hk.1.1.2, hk.1.2⟩)⟩, ⟨by repeat (first | (with_reducible first | exact HB.out | apply below_alloc | apply pw_below_drewN | apply below_drew1) | exact HB.out)⟩⟩
            · rw [if_neg c19] at H
              have c19b0 : decide (0 ≤ x10_1) = false := decide_eq_false c19
              clear c19
              replace H := Option.bind_eq_some_iff.mp H
              obtain ⟨t369, A420, H⟩ := H
              replace H : (some (t369, x8_1)) = some (r1, r2) := H
              have A42 := Aside0.mk A420
              clear A420
              simp only [Option.some.injEq, Prod.mk.injEq] at H
              obtain ⟨rfl, rfl⟩ := H
              obtain ⟨Ao43, co43, eo43⟩ := Kd.R_slice HO_7.out
              subst eo43
              go_wp2_with (first | ((with_reducible refine gate_callee (f := 107) rfl ?_); refine goesL_ (some 58) rfl rfl Try.func107 (by kernel_rfl) rfl #[.slice Ao43 x7_1.length co43] rfl (by (try simp only [List.map_toArray, List.map_cons, List.map_nil]); first | done | rfl | (simp only [List.length_drop, List.length_take]; rfl)) ?_; (with_reducible refine (psephosref01_trim.calls k1 _ _ x7_1 t369 _ ?side1 ?side2 A42.out).mono ?_); (case side1 => repeat (first | exact (Kd.R_reads' HO_7.out).2.2 | (with_reducible refine Kd.C_alloc ?_ _) | (with_reducible refine Kd.C_drewN ?_ _) | (with_reducible refine Kd.C_drew ?_))); (case side2 => exact (Kd.R_reads' HO_7.out).2.1); rintro e w44 ⟨v370, rfl, ho0, hb⟩; refine ⟨_, rfl, ?_⟩; have n0_ := Aside0.mk (Kd.R_elder' (by (with_reducible repeat (first | apply Kd.R_alloc | apply Kd.R_drewN | apply Kd.R_drew)); exact HO_7.out) (Kd.R_base ho0) hb); have n1_ := Aside0.mk (Kd.R_elder' (by (with_reducible repeat (first | apply Kd.R_alloc | apply Kd.R_drewN | apply Kd.R_drew)); exact HO_8.out) (Kd.R_base ho0) hb); have n2_ := Aside0.mk (Kd.R_elder' (by (with_reducible repeat (first | apply Kd.R_alloc | apply Kd.R_drewN | apply Kd.R_drew)); exact HO_9.out) (Kd.R_base ho0) hb); have n3_ := Aside0.mk (Kd.R_lower (Kd.R_new' (Kd.R_new' (Kd.R_new' ho0 (Kd.R_lt (by (with_reducible repeat (first | apply Kd.R_alloc | apply Kd.R_drewN | apply Kd.R_drew)); exact HO_7.out))) (Kd.R_lt (by (with_reducible repeat (first | apply Kd.R_alloc | apply Kd.R_drewN | apply Kd.R_drew)); exact HO_8.out))) (Kd.R_lt (by (with_reducible repeat (first | apply Kd.R_alloc | apply Kd.R_drewN | apply Kd.R_drew)); exact HO_9.out))) (below_size (by repeat (first | (with_reducible first | exact HB.out | apply below_alloc | apply pw_below_drewN | apply below_drew1) | exact HB.out)))); have n4_ := Aside0.mk (below_step (by repeat (first | (with_reducible first | exact HB.out | apply below_alloc | apply pw_below_drewN | apply below_drew1) | exact HB.out)) hb); clear HO_7; clear HO_8; clear HO_9; clear HB; have HO_7 := n0_; have HO_8 := n1_; have HO_9 := n2_; have HO371 := n3_; have HB := n4_; clear n0_ n1_ n2_ n3_ n4_; (try clear hb); (try clear hb2); (try clear hk); (try clear hi); (try clear ho0)))
              go_ret2
              exact ⟨_, _, by first | rfl | (simp [errW_none, errW_some] <;> rfl) | (simp only [← hji8]; first | rfl | (simp [errW_none, errW_some] <;> rfl)) | (simp [*, errW_none, errW_some] <;> rfl), by (with_reducible repeat (first | apply Kd.R_alloc | apply Kd.R_drewN | apply Kd.R_drew)); exact Kd.R_mono HO371.out (fun _ hk => hk.1.2), by (with_reducible repeat (first | apply Kd.R_alloc | apply Kd.R_drewN | apply Kd.R_drew)); exact Kd.R_mono HO_8.out (fun _ hk => hk.2), by repeat (first | (with_reducible first | exact HB.out | apply below_alloc | apply pw_below_drewN | apply below_drew1) | exact HB.out)⟩
      · rw [if_neg c10] at H
        exact absurd H (by simp)
    · rw [if_neg c9] at H
      exact absurd H (by simp)

/-! ### psephosref01_gcd: function 71 -/
def psephosref01_gcd.l0 : Nat → List Int → List Int → Option (List Int)
  | 0, _, _ => none
  | k + 1, x0, x1 => if (x1.length : Int) > 0 then ((psephosref01_divMod.f k x0 x1).bind fun bt384 => (psephosref01_gcd.l0 k x1 bt384.2)) else ((psephosref01_trim.f k x0).bind fun t390 => (some t390))
def psephosref01_gcd.f (k : Nat) (l0 : List Int) (l1 : List Int) : Option (List Int) := psephosref01_gcd.l0 k l0 l1
theorem psephosref01_gcd.mono_l : ∀ k, (∀ y0 y1, LeO (psephosref01_gcd.l0 k y0 y1) (psephosref01_gcd.l0 (k + 1) y0 y1))
  | 0 => fun _ _ r h => by simp [psephosref01_gcd.l0] at h
  | k + 1 => by
    have ih0 := psephosref01_gcd.mono_l k
    · intro y0 y1
      unfold psephosref01_gcd.l0
      repeat' first
      | (with_reducible exact ih0 _ _)
      | (with_reducible exact psephosref01_divMod.mono _ _ _)
      | (with_reducible exact psephosref01_trim.mono _ _)
      | (with_reducible exact LeO.refl _)
      | (with_reducible exact LeO.none _)
      | (with_reducible refine LeO.ite ?_ ?_)
      | (with_reducible refine LeO.bind ?_ (fun _ => ?_))
      | exact ih0 _ _
      | exact psephosref01_divMod.mono _ _ _
      | exact psephosref01_trim.mono _ _
      | exact LeO.none _
      | refine LeO.ite ?_ ?_
      | refine LeO.bind ?_ (fun _ => ?_)
theorem psephosref01_gcd.mono : ∀ a0 a1 k, LeO (psephosref01_gcd.f k a0 a1) (psephosref01_gcd.f (k + 1) a0 a1) := by
  intro a0 a1 k
  have ih0 := psephosref01_gcd.mono_l k
  unfold psephosref01_gcd.f
  repeat' first
      | (with_reducible exact ih0 _ _)
      | (with_reducible exact psephosref01_divMod.mono _ _ _)
      | (with_reducible exact psephosref01_trim.mono _ _)
      | (with_reducible exact LeO.refl _)
      | (with_reducible exact LeO.none _)
      | (with_reducible refine LeO.ite ?_ ?_)
      | (with_reducible refine LeO.bind ?_ (fun _ => ?_))
      | exact ih0 _ _
      | exact psephosref01_divMod.mono _ _ _
      | exact psephosref01_trim.mono _ _
      | exact LeO.none _
      | refine LeO.ite ?_ ?_
      | refine LeO.bind ?_ (fun _ => ?_)
set_option maxHeartbeats 8000000 in
set_option maxRecDepth 100000 in
theorem psephosref01_gcd.calls (k : Nat) (P0_ : Nat → Prop) (A0 : Option Addr) (c0 : Nat) (l0 : List Int) (P1_ : Nat → Prop) (A1 : Option Addr) (c1 : Nat) (l1 : List Int) (r : List Int) (w : World) (hs0 : Kd.V (Kd.int .u32) 64 w w.heap.size (fun k_ => P0_ k_) (.slice A0 l0.length c0) l0) (hs1 : Kd.V (Kd.int .u32) 64 w w.heap.size (fun k_ => P1_ k_) (.slice A1 l1.length c1) l1) (h : psephosref01_gcd.f k l0 l1 = some r) :
    Calls Try.prog 71 #[.slice A0 l0.length c0, .slice A1 l1.length c1] w fun e w' => ∃ v0_ : Value, e = .returned (v0_) ∧ Kd.R (Kd.int .u32) 64 w' w.heap.size (fun k_ => (w.heap.size ≤ k_)) v0_ r ∧ Below w.heap.size w w' := by
  have HO0 := Aside0.mk (show Kd.V (Kd.int .u32) 64 w w.heap.size (fun k_ => ((P0_ k_ ∨ P1_ k_) ∨ w.heap.size ≤ k_)) (.slice A0 l0.length c0) l0 from Kd.V_mono hs0 (fun k_ hk => .inl (.inl hk)))
  have HO1 := Aside0.mk (show Kd.V (Kd.int .u32) 64 w w.heap.size (fun k_ => ((P0_ k_ ∨ P1_ k_) ∨ w.heap.size ≤ k_)) (.slice A1 l1.length c1) l1 from Kd.V_mono hs1 (fun k_ hk => .inl (.inr hk)))
  have HB := Aside0.mk (Below.refl w.heap.size w)
  have H : (psephosref01_gcd.l0 k l0 l1) = some r := h
  clear h
  have H' := Aside0.mk H
  clear H
  go_enter Try.func71, Try.ntmps71
  go_wp2
  go_loopg [0, 1] k (fun kq v0 v1 w' => ∃ (x0_1 : List Int) (x1_1 : List Int), Aside0 (psephosref01_gcd.l0 kq x0_1 x1_1 = some r) ∧ Aside0 (kq ≤ k) ∧ Aside0 (Kd.V (Kd.int .u32) 64 w' w.heap.size (fun k_ => ((P0_ k_ ∨ P1_ k_) ∨ w.heap.size ≤ k_)) v0 x0_1) ∧ Aside0 (Kd.V (Kd.int .u32) 64 w' w.heap.size (fun k_ => ((P0_ k_ ∨ P1_ k_) ∨ w.heap.size ≤ k_)) v1 x1_1) ∧ Aside0 (Below w.heap.size w w'))
  case atStart => exact ⟨(l0), (l1), H', ⟨Nat.le_refl _⟩, ⟨by (with_reducible repeat (first | apply Kd.V_alloc | apply Kd.V_drewN | apply Kd.V_drew)); exact HO0.out⟩, ⟨by (with_reducible repeat (first | apply Kd.V_alloc | apply Kd.V_drewN | apply Kd.V_drew)); exact HO1.out⟩, ⟨by repeat (first | (with_reducible first | exact HB.out | apply below_alloc | apply pw_below_drewN | apply below_drew1) | exact HB.out)⟩⟩
  case round =>
    clear H'
    try clear c1
    try clear p2
    obtain ⟨x0_1, x1_1, HA, HK1, HO_0, HO_1, HB⟩ := hrel
    cases gk with
    | zero => exact absurd HA.out (by simp [psephosref01_gcd.l0])
    | succ k1 =>
      have H := HA.out
      clear HA
      simp only [psephosref01_gcd.l0] at H
      by_cases c3 : (x1_1.length : Int) > 0
      · rw [if_pos c3] at H
        have c3b0 : decide (0 < (x1_1.length : Int)) = true := decide_eq_true c3
        have c3b1 : decide (0 < x1_1.length) = true := decide_eq_true (by omega)
        clear c3
        replace H := Option.bind_eq_some_iff.mp H
        obtain ⟨⟨t384, t385⟩, A40, H⟩ := H
        replace H : (psephosref01_gcd.l0 k1 x1_1 t385) = some r := H
        have A4 := Aside0.mk A40
        clear A40
        have H' := Aside0.mk H
        clear H
        obtain ⟨Ao5, co5, eo5⟩ := Kd.V_slice HO_1.out
        subst eo5
        obtain ⟨Ao6, co6, eo6⟩ := Kd.V_slice HO_0.out
        subst eo6
        go_wp2_with (first | ((with_reducible refine gate_callee (f := 77) rfl ?_); refine goesL_ (some 13) rfl rfl Try.func77 (by kernel_rfl) rfl #[.slice Ao6 x0_1.length co6, .slice Ao5 x1_1.length co5] rfl (by (try simp only [List.map_toArray, List.map_cons, List.map_nil]); first | done | rfl | (simp only [List.length_drop, List.length_take]; rfl)) ?_; (with_reducible refine (psephosref01_divMod.calls k1 _ _ x0_1 _ _ x1_1 t384 t385 _ ?side1 ?side2 ?side3 ?side4 A4.out).mono ?_); (case side1 => repeat (first | exact (Kd.V_reads' HO_0.out).2.2 | (with_reducible refine Kd.C_alloc ?_ _) | (with_reducible refine Kd.C_drewN ?_ _) | (with_reducible refine Kd.C_drew ?_))); (case side2 => exact (Kd.V_reads' HO_0.out).2.1); (case side3 => repeat (first | exact (Kd.V_reads' HO_1.out).2.2 | (with_reducible refine Kd.C_alloc ?_ _) | (with_reducible refine Kd.C_drewN ?_ _) | (with_reducible refine Kd.C_drew ?_))); (case side4 => exact (Kd.V_reads' HO_1.out).2.1); rintro e w7 ⟨v386, v388, rfl, ho0, ho1, hb⟩; refine ⟨_, rfl, ?_⟩; have n0_ := Aside0.mk (Kd.V_mono (Kd.V_told (Kd.V_told (Kd.V_old (by (with_reducible repeat (first | apply Kd.V_alloc | apply Kd.V_drewN | apply Kd.V_drew)); exact HO_0.out) hb) (Kd.R_base ho0)) (Kd.R_base ho1)) (fun _ h_ => h_.1)); have n1_ := Aside0.mk (Kd.V_mono (Kd.V_told (Kd.V_told (Kd.V_old (by (with_reducible repeat (first | apply Kd.V_alloc | apply Kd.V_drewN | apply Kd.V_drew)); exact HO_1.out) hb) (Kd.R_base ho0)) (Kd.R_base ho1)) (fun _ h_ => h_.1)); have n2_ := Aside0.mk (Kd.R_lower (Kd.R_newM (M := fun k_ => (w.heap.size ≤ k_)) ho0 (below_size (by repeat (first | (with_reducible first | exact HB.out | apply below_alloc | apply pw_below_drewN | apply below_drew1) | exact HB.out))) (fun k_ h_ => h_)) (below_size (by repeat (first | (with_reducible first | exact HB.out | apply below_alloc | apply pw_below_drewN | apply below_drew1) | exact HB.out)))); have n3_ := Aside0.mk (Kd.R_lower (Kd.R_newM (M := fun k_ => (w.heap.size ≤ k_)) ho1 (below_size (by repeat (first | (with_reducible first | exact HB.out | apply below_alloc | apply pw_below_drewN | apply below_drew1) | exact HB.out))) (fun k_ h_ => h_)) (below_size (by repeat (first | (with_reducible first | exact HB.out | apply below_alloc | apply pw_below_drewN | apply below_drew1) | exact HB.out)))); have n4_ := Aside0.mk (below_step (by repeat (first | (with_reducible first | exact HB.out | apply below_alloc | apply pw_below_drewN | apply below_drew1) | exact HB.out)) hb); clear HO_0; clear HO_1; clear HB; have HO_0 := n0_; have HO_1 := n1_; have HO387 := n2_; have HO389 := n3_; have HB := n4_; clear n0_ n1_ n2_ n3_ n4_; (try clear hb); (try clear hb2); (try clear hk); (try clear hi); (try clear ho0); (try clear ho1)))
        go_roundg k1
        case measure => have := HK1.out; omega
        case rel => exact ⟨(x1_1), (t385), H', ⟨by have := HK1.out; omega⟩, ⟨by (with_reducible repeat (first | apply Kd.V_alloc | apply Kd.V_drewN | apply Kd.V_drew)); exact Kd.V_mono HO_1.out (fun _ hk => hk.1.1)⟩, ⟨Kd.V_mono (Kd.R_V (by (with_reducible repeat (first | apply Kd.R_alloc | apply Kd.R_drewN | apply Kd.R_drew)); exact Kd.R_mono HO389.out (fun _ hk => hk.1))) (fun k_ hk => by first | exact ⟨(.inr (hk.1)), hk.2⟩ | exact (.inr (hk)))⟩, ⟨by repeat (first | (with_reducible first | exact HB.out | apply below_alloc | apply pw_below_drewN | apply below_drew1) | exact HB.out)⟩⟩
      · rw [if_neg c3] at H
        have c3b0 : decide (0 < (x1_1.length : Int)) = false := decide_eq_false c3
        have c3b1 : decide (0 < x1_1.length) = false := decide_eq_false (by omega)
        clear c3
        replace H := Option.bind_eq_some_iff.mp H
        obtain ⟨t390, A80, H⟩ := H
        replace H : (some t390) = some r := H
        have A8 := Aside0.mk A80
        clear A80
        obtain rfl := Option.some.inj H
        obtain ⟨Ao9, co9, eo9⟩ := Kd.V_slice HO_1.out
        subst eo9
        obtain ⟨Ao10, co10, eo10⟩ := Kd.V_slice HO_0.out
        subst eo10
        go_wp2_with (first | ((with_reducible refine gate_callee (f := 107) rfl ?_); refine goesL_ (some 19) rfl rfl Try.func107 (by kernel_rfl) rfl #[.slice Ao10 x0_1.length co10] rfl (by (try simp only [List.map_toArray, List.map_cons, List.map_nil]); first | done | rfl | (simp only [List.length_drop, List.length_take]; rfl)) ?_; (with_reducible refine (psephosref01_trim.calls k1 _ _ x0_1 t390 _ ?side1 ?side2 A8.out).mono ?_); (case side1 => repeat (first | exact (Kd.V_reads' HO_0.out).2.2 | (with_reducible refine Kd.C_alloc ?_ _) | (with_reducible refine Kd.C_drewN ?_ _) | (with_reducible refine Kd.C_drew ?_))); (case side2 => exact (Kd.V_reads' HO_0.out).2.1); rintro e w11 ⟨v391, rfl, ho0, hb⟩; refine ⟨_, rfl, ?_⟩; have n0_ := Aside0.mk (Kd.V_elder' (by (with_reducible repeat (first | apply Kd.V_alloc | apply Kd.V_drewN | apply Kd.V_drew)); exact HO_0.out) (Kd.R_base ho0) hb); have n1_ := Aside0.mk (Kd.V_elder' (by (with_reducible repeat (first | apply Kd.V_alloc | apply Kd.V_drewN | apply Kd.V_drew)); exact HO_1.out) (Kd.R_base ho0) hb); have n2_ := Aside0.mk (Kd.R_lower (Kd.R_newM (M := fun k_ => (w.heap.size ≤ k_)) ho0 (below_size (by repeat (first | (with_reducible first | exact HB.out | apply below_alloc | apply pw_below_drewN | apply below_drew1) | exact HB.out))) (fun k_ h_ => h_)) (below_size (by repeat (first | (with_reducible first | exact HB.out | apply below_alloc | apply pw_below_drewN | apply below_drew1) | exact HB.out)))); have n3_ := Aside0.mk (below_step (by repeat (first | (with_reducible first | exact HB.out | apply below_alloc | apply pw_below_drewN | apply below_drew1) | exact HB.out)) hb); clear HO_0; clear HO_1; clear HB; have HO_0 := n0_; have HO_1 := n1_; have HO392 := n2_; have HB := n3_; clear n0_ n1_ n2_ n3_; (try clear hb); (try clear hb2); (try clear hk); (try clear hi); (try clear ho0)))
        go_ret
        exact ⟨_, by first | rfl | (simp [errW_none, errW_some] <;> rfl) | (simp [*, errW_none, errW_some] <;> rfl), by (with_reducible repeat (first | apply Kd.R_alloc | apply Kd.R_drewN | apply Kd.R_drew)); exact Kd.R_mono HO392.out (fun _ hk => hk.1), by repeat (first | (with_reducible first | exact HB.out | apply below_alloc | apply pw_below_drewN | apply below_drew1) | exact HB.out)⟩

/-! ### psephosref01_lowest: function 66 -/
def psephosref01_lowest.f (k : Nat) (l0 : List Int) (l1 : List Int) : Option (List Int × List Int) := (psephosref01_gcd.f k l0 l1).bind fun t394 => ((psephosref01_divMod.f k l0 t394).bind fun bt397 => ((psephosref01_divMod.f k l1 t394).bind fun bt403 => (some (bt397.1, bt403.1))))
theorem psephosref01_lowest.mono : ∀ a0 a1 k, LeO (psephosref01_lowest.f k a0 a1) (psephosref01_lowest.f (k + 1) a0 a1) := by
  intro a0 a1 k
  unfold psephosref01_lowest.f
  repeat' first
      | (with_reducible exact psephosref01_divMod.mono _ _ _)
      | (with_reducible exact psephosref01_gcd.mono _ _ _)
      | (with_reducible exact LeO.refl _)
      | (with_reducible exact LeO.none _)
      | (with_reducible refine LeO.ite ?_ ?_)
      | (with_reducible refine LeO.bind ?_ (fun _ => ?_))
      | exact psephosref01_divMod.mono _ _ _
      | exact psephosref01_gcd.mono _ _ _
      | exact LeO.none _
      | refine LeO.ite ?_ ?_
      | refine LeO.bind ?_ (fun _ => ?_)
set_option maxHeartbeats 8000000 in
set_option maxRecDepth 100000 in
theorem psephosref01_lowest.calls (k : Nat) (A0 : Option Addr) (c0 : Nat) (l0 : List Int) (A1 : Option Addr) (c1 : Nat) (l1 : List Int) (r1 : List Int) (r2 : List Int) (w : World) (hr0 : Kd.C (Kd.int .u32) w A0 l0.length l0) (hc0 : l0.length ≤ c0) (hr1 : Kd.C (Kd.int .u32) w A1 l1.length l1) (hc1 : l1.length ≤ c1) (h : psephosref01_lowest.f k l0 l1 = some (r1, r2)) :
    Calls Try.prog 66 #[.slice A0 l0.length c0, .slice A1 l1.length c1] w fun e w' => ∃ v0_ v1_ : Value, e = .returned (.agg #[v0_, v1_]) ∧ Kd.R (Kd.int .u32) 64 w' w.heap.size (fun k_ => some k_ ≠ (v1_ : Value).ownBlock) v0_ r1 ∧ Kd.R (Kd.int .u32) 64 w' w.heap.size (fun k_ => some k_ ≠ (v0_ : Value).ownBlock) v1_ r2 ∧ Below w.heap.size w w' := by
  have hu39 := Try.underlying39
  have HR0 := Aside0.mk hr0
  have HC0 := Aside0.mk hc0
  clear hr0 hc0
  have HR1 := Aside0.mk hr1
  have HC1 := Aside0.mk hc1
  clear hr1 hc1
  have HB := Aside0.mk (Below.refl w.heap.size w)
  have H : ((psephosref01_gcd.f k l0 l1).bind fun t394 => ((psephosref01_divMod.f k l0 t394).bind fun bt397 => ((psephosref01_divMod.f k l1 t394).bind fun bt403 => (some (bt397.1, bt403.1))))) = some (r1, r2) := h
  clear h
  replace H := Option.bind_eq_some_iff.mp H
  obtain ⟨t394, A30, H⟩ := H
  replace H : ((psephosref01_divMod.f k l0 t394).bind fun bt397 => ((psephosref01_divMod.f k l1 t394).bind fun bt403 => (some (bt397.1, bt403.1)))) = some (r1, r2) := H
  have A3 := Aside0.mk A30
  clear A30
  replace H := Option.bind_eq_some_iff.mp H
  obtain ⟨⟨t397, t398⟩, A40, H⟩ := H
  replace H : ((psephosref01_divMod.f k l1 t394).bind fun bt403 => (some (t397, bt403.1))) = some (r1, r2) := H
  have A4 := Aside0.mk A40
  clear A40
  replace H := Option.bind_eq_some_iff.mp H
  obtain ⟨⟨t403, t404⟩, A50, H⟩ := H
  replace H : (some (t397, t403)) = some (r1, r2) := H
  have A5 := Aside0.mk A50
  clear A50
  simp only [Option.some.injEq, Prod.mk.injEq] at H
  obtain ⟨rfl, rfl⟩ := H
  go_enter Try.func66, Try.ntmps66
  go_wp2_with (first | ((with_reducible refine gate_dst (N := 4) rfl ?_); refine box_event ?hg (N := 4) ?hd (cs := #[.slice none 0 0, .slice none 0 0]) (t := 39) ?hr ?_; (case hd => rfl); (case hg => rfl); (case hr => first | (go_simp; done) | (go_simp; rfl)); intro gb393 hg w6 hbox hb; have n0_ := Aside0.mk (below_step (by repeat (first | (with_reducible first | exact HB.out | apply below_alloc | apply pw_below_drewN | apply below_drew1) | exact HB.out)) hb); have n1_ := Aside0.mk (hbox); have n2_ := Aside0.mk ((by rw [hg]; exact (below_size (by repeat (first | (with_reducible first | exact HB.out | apply below_alloc | apply pw_below_drewN | apply below_drew1) | exact HB.out))) : w.heap.size ≤ gb393)); have n3_ := Aside0.mk ((by rw [hg]; exact (below_size (by repeat (first | (with_reducible first | exact HB.out | apply below_alloc | apply pw_below_drewN | apply below_drew1) | exact HB.out))) : w.heap.size ≤ gb393)); clear HB; have HB := n0_; have BK393 := n1_; have GW393 := n2_; have GE393 := n3_; clear n0_ n1_ n2_ n3_; clear hb hbox hg) | ((with_reducible refine gate_callee (f := 71) rfl ?_); refine goesL_ (some 12) rfl rfl Try.func71 (by kernel_rfl) rfl #[.slice A0 l0.length c0, .slice A1 l1.length c1] rfl (by (try simp only [List.map_toArray, List.map_cons, List.map_nil]); first | done | rfl | (simp only [List.length_drop, List.length_take]; rfl)) ?_; (with_reducible refine (psephosref01_gcd.calls k (fun k_ => k_ < w.heap.size) _ _ l0 (fun k_ => k_ < w.heap.size) _ _ l1 t394 _ ?side1 ?side2 A3.out).mono ?_); (case side1 => exact Kd.V_mk HC0.out (Kd.F_below (Kd.C_F (Kd.heap_int .u32) HR0.out) (by repeat (first | (with_reducible first | exact HB.out | apply below_alloc | apply pw_below_drewN | apply below_drew1 | refine below_set ?_ GE393.out) | exact HB.out)))); (case side2 => exact Kd.V_mk HC1.out (Kd.F_below (Kd.C_F (Kd.heap_int .u32) HR1.out) (by repeat (first | (with_reducible first | exact HB.out | apply below_alloc | apply pw_below_drewN | apply below_drew1 | refine below_set ?_ GE393.out) | exact HB.out)))); rintro e w7 ⟨v395, rfl, ho0, hb⟩; refine ⟨_, rfl, ?_⟩; have n0_ := Aside0.mk (Kd.R_lower (Kd.R_mono (ok' := fun k_ => True) ho0 (fun _ hk_ => trivial)) (below_size (by repeat (first | (with_reducible first | exact HB.out | apply below_alloc | apply pw_below_drewN | apply below_drew1 | refine below_set ?_ GE393.out) | exact HB.out)))); have n1_ := Aside0.mk (blk_below (g := gb393) (o := .cells #[.slice none 0 0, .slice none 0 0] 39 (0, 0)) (by (with_reducible repeat (first | refine blk_drewN ?_ _ | refine blk_drew ?_ | refine blk_alloc ?_ _)); exact BK393.out) hb); have n2_ := Aside0.mk (below_step (by repeat (first | (with_reducible first | exact HB.out | apply below_alloc | apply pw_below_drewN | apply below_drew1 | refine below_set ?_ GE393.out) | exact HB.out)) hb); clear BK393; clear HB; have HO396 := n0_; have BK393 := n1_; have HB := n2_; clear n0_ n1_ n2_; (try clear hb); (try clear hb2); (try clear hk); (try clear hi); (try clear ho0); obtain ⟨Ao8, co8, eo8⟩ := Kd.R_slice HO396.out; subst eo8) | ((with_reducible refine gate_callee (f := 77) rfl ?_); refine goesL_ (some 16) rfl rfl Try.func77 (by kernel_rfl) rfl #[.slice A0 l0.length c0, .slice Ao8 t394.length co8] rfl (by (try simp only [List.map_toArray, List.map_cons, List.map_nil]); first | done | rfl | (simp only [List.length_drop, List.length_take]; rfl)) ?_; (with_reducible refine (psephosref01_divMod.calls k _ _ l0 _ _ t394 t397 t398 _ ?side1 ?side2 ?side3 ?side4 A4.out).mono ?_); (case side1 => repeat (first | exact (Kd.C_below HR0.out HB.out) | (with_reducible refine Kd.C_alloc ?_ _) | (with_reducible refine Kd.C_drewN ?_ _) | (with_reducible refine Kd.C_drew ?_))); (case side2 => exact HC0.out); (case side3 => repeat (first | exact (Kd.R_reads' HO396.out).2.2 | (with_reducible refine Kd.C_alloc ?_ _) | (with_reducible refine Kd.C_drewN ?_ _) | (with_reducible refine Kd.C_drew ?_))); (case side4 => exact (Kd.R_reads' HO396.out).2.1); rintro e w9 ⟨v399, v401, rfl, ho0, ho1, hb⟩; refine ⟨_, rfl, ?_⟩; have n0_ := Aside0.mk (Kd.R_mono (Kd.R_told (Kd.R_told (Kd.R_old (by (with_reducible repeat (first | apply Kd.R_alloc | apply Kd.R_drewN | apply Kd.R_drew)); exact HO396.out) hb) (Kd.R_base ho0)) (Kd.R_base ho1)) (fun _ h_ => h_.1)); have n1_ := Aside0.mk (Kd.R_lower (Kd.R_new' ho0 (Kd.R_lt (by (with_reducible repeat (first | apply Kd.R_alloc | apply Kd.R_drewN | apply Kd.R_drew)); exact HO396.out))) (below_size (by repeat (first | (with_reducible first | exact HB.out | apply below_alloc | apply pw_below_drewN | apply below_drew1 | refine below_set ?_ GE393.out) | exact HB.out)))); have n2_ := Aside0.mk (Kd.R_lower (Kd.R_new' ho1 (Kd.R_lt (by (with_reducible repeat (first | apply Kd.R_alloc | apply Kd.R_drewN | apply Kd.R_drew)); exact HO396.out))) (below_size (by repeat (first | (with_reducible first | exact HB.out | apply below_alloc | apply pw_below_drewN | apply below_drew1 | refine below_set ?_ GE393.out) | exact HB.out)))); have n3_ := Aside0.mk (blk_below (g := gb393) (o := .cells #[.slice none 0 0, .slice none 0 0] 39 (0, 0)) (by (with_reducible repeat (first | refine blk_drewN ?_ _ | refine blk_drew ?_ | refine blk_alloc ?_ _)); exact BK393.out) hb); have n4_ := Aside0.mk (below_step (by repeat (first | (with_reducible first | exact HB.out | apply below_alloc | apply pw_below_drewN | apply below_drew1 | refine below_set ?_ GE393.out) | exact HB.out)) hb); clear HO396; clear BK393; clear HB; have HO396 := n0_; have HO400 := n1_; have HO402 := n2_; have BK393 := n3_; have HB := n4_; clear n0_ n1_ n2_ n3_ n4_; (try clear hb); (try clear hb2); (try clear hk); (try clear hi); (try clear ho0); (try clear ho1)) | ((with_reducible refine gate_callee (f := 77) rfl ?_); refine goesL_ (some 22) rfl rfl Try.func77 (by kernel_rfl) rfl #[.slice A1 l1.length c1, .slice Ao8 t394.length co8] rfl (by (try simp only [List.map_toArray, List.map_cons, List.map_nil]); first | done | rfl | (simp only [List.length_drop, List.length_take]; rfl)) ?_; (with_reducible refine (psephosref01_divMod.calls k _ _ l1 _ _ t394 t403 t404 _ ?side1 ?side2 ?side3 ?side4 A5.out).mono ?_); (case side1 => repeat (first | exact (Kd.C_below HR1.out HB.out) | (with_reducible refine Kd.C_alloc ?_ _) | (with_reducible refine Kd.C_drewN ?_ _) | (with_reducible refine Kd.C_drew ?_))); (case side2 => exact HC1.out); (case side3 => repeat (first | exact (Kd.R_reads' HO396.out).2.2 | (with_reducible refine Kd.C_alloc ?_ _) | (with_reducible refine Kd.C_drewN ?_ _) | (with_reducible refine Kd.C_drew ?_))); (case side4 => exact (Kd.R_reads' HO396.out).2.1); rintro e w10 ⟨v405, v407, rfl, ho0, ho1, hb⟩; refine ⟨_, rfl, ?_⟩; have n0_ := Aside0.mk (Kd.R_mono (Kd.R_told (Kd.R_told (Kd.R_old (by (with_reducible repeat (first | apply Kd.R_alloc | apply Kd.R_drewN | apply Kd.R_drew)); exact HO396.out) hb) (Kd.R_base ho0)) (Kd.R_base ho1)) (fun _ h_ => h_.1)); have n1_ := Aside0.mk (Kd.R_mono (Kd.R_told (Kd.R_told (Kd.R_old (by (with_reducible repeat (first | apply Kd.R_alloc | apply Kd.R_drewN | apply Kd.R_drew)); exact HO400.out) hb) (Kd.R_base ho0)) (Kd.R_base ho1)) (fun _ h_ => h_.1)); have n2_ := Aside0.mk (Kd.R_mono (Kd.R_told (Kd.R_told (Kd.R_old (by (with_reducible repeat (first | apply Kd.R_alloc | apply Kd.R_drewN | apply Kd.R_drew)); exact HO402.out) hb) (Kd.R_base ho0)) (Kd.R_base ho1)) (fun _ h_ => h_.1)); have n3_ := Aside0.mk (Kd.R_lower (Kd.R_new' (Kd.R_new' (Kd.R_new' ho0 (Kd.R_lt (by (with_reducible repeat (first | apply Kd.R_alloc | apply Kd.R_drewN | apply Kd.R_drew)); exact HO396.out))) (Kd.R_lt (by (with_reducible repeat (first | apply Kd.R_alloc | apply Kd.R_drewN | apply Kd.R_drew)); exact HO400.out))) (Kd.R_lt (by (with_reducible repeat (first | apply Kd.R_alloc | apply Kd.R_drewN | apply Kd.R_drew)); exact HO402.out))) (below_size (by repeat (first | (with_reducible first | exact HB.out | apply below_alloc | apply pw_below_drewN | apply below_drew1 | refine below_set ?_ GE393.out) | exact HB.out)))); have n4_ := Aside0.mk (Kd.R_lower (Kd.R_new' (Kd.R_new' (Kd.R_new' ho1 (Kd.R_lt (by (with_reducible repeat (first | apply Kd.R_alloc | apply Kd.R_drewN | apply Kd.R_drew)); exact HO396.out))) (Kd.R_lt (by (with_reducible repeat (first | apply Kd.R_alloc | apply Kd.R_drewN | apply Kd.R_drew)); exact HO400.out))) (Kd.R_lt (by (with_reducible repeat (first | apply Kd.R_alloc | apply Kd.R_drewN | apply Kd.R_drew)); exact HO402.out))) (below_size (by repeat (first | (with_reducible first | exact HB.out | apply below_alloc | apply pw_below_drewN | apply below_drew1 | refine below_set ?_ GE393.out) | exact HB.out)))); have n5_ := Aside0.mk (blk_below (g := gb393) (o := .cells #[.slice none 0 0, .slice none 0 0] 39 (0, 0)) (by (with_reducible repeat (first | refine blk_drewN ?_ _ | refine blk_drew ?_ | refine blk_alloc ?_ _)); exact BK393.out) hb); have n6_ := Aside0.mk (below_step (by repeat (first | (with_reducible first | exact HB.out | apply below_alloc | apply pw_below_drewN | apply below_drew1 | refine below_set ?_ GE393.out) | exact HB.out)) hb); clear HO396; clear HO400; clear HO402; clear BK393; clear HB; have HO396 := n0_; have HO400 := n1_; have HO402 := n2_; have HO406 := n3_; have HO408 := n4_; have BK393 := n5_; have HB := n6_; clear n0_ n1_ n2_ n3_ n4_ n5_ n6_; (try clear hb); (try clear hb2); (try clear hk); (try clear hi); (try clear ho0); (try clear ho1); obtain ⟨Ao11, co11, eo11⟩ := Kd.R_slice HO406.out; subst eo11; obtain ⟨Ao12, co12, eo12⟩ := Kd.R_slice HO400.out; subst eo12; have hcz13_0 : w10.cell? ⟨gb393, 0, none⟩ = some (.slice none 0 0) := (blk_cell BK393.out 0).trans rfl; have hcz13_1 : w10.cell? ⟨gb393, 1, none⟩ = some (.slice none 0 0) := (blk_cell BK393.out 1).trans rfl; have hfz13_0 := blk_frozen BK393.out 0; have hfz13_1 := blk_frozen BK393.out 1))
  refine bodyPost_ret (results_cell_row rfl _ _ gb393 39 #[.slice Ao12 t397.length co12, .slice Ao11 t403.length co11] (0, 0) _ rfl (by (with_reducible repeat (first | refine blk_drewN ?_ _ | refine blk_drew ?_ | refine blk_alloc ?_ _)); refine blk_put (cs := #[.slice Ao12 t397.length co12, .slice none 0 0]) ?_ 1 _ rfl; (with_reducible repeat (first | refine blk_drewN ?_ _ | refine blk_drew ?_ | refine blk_alloc ?_ _)); refine blk_put (cs := #[.slice none 0 0, .slice none 0 0]) ?_ 0 _ rfl; (with_reducible repeat (first | refine blk_drewN ?_ _ | refine blk_drew ?_ | refine blk_alloc ?_ _)); exact BK393.out) Try.underlying39 rfl (by kernel_rfl)) rfl ?_
  exact ⟨_, _, by first | rfl | (simp [errW_none, errW_some] <;> rfl) | (simp [*, errW_none, errW_some] <;> rfl), by (with_reducible repeat (first | apply Kd.R_alloc | apply Kd.R_drewN | apply Kd.R_drew)); exact Kd.R_mono (Kd.R_far (p := ⟨gb393, 1, none⟩) (Kd.R_far (p := ⟨gb393, 0, none⟩) (Kd.R_types HO400.out BK393.out (by decide)) (fun _ hk => hk.2) (.slice Ao12 t397.length co12)) (fun _ hk => hk.2) (.slice Ao11 t403.length co11)) (fun _ hk => hk.1.1.2), by (with_reducible repeat (first | apply Kd.R_alloc | apply Kd.R_drewN | apply Kd.R_drew)); exact Kd.R_mono (Kd.R_far (p := ⟨gb393, 1, none⟩) (Kd.R_far (p := ⟨gb393, 0, none⟩) (Kd.R_types HO406.out BK393.out (by decide)) (fun _ hk => hk.2) (.slice Ao12 t397.length co12)) (fun _ hk => hk.2) (.slice Ao11 t403.length co11)) (fun _ hk => hk.1.1.2), by repeat (first | (with_reducible first | exact HB.out | apply below_alloc | apply pw_below_drewN | apply below_drew1 | refine below_set ?_ GE393.out) | exact HB.out)⟩

end Go.Proofs.Ytbfcmjaomkdpgaa.PRatioForms
