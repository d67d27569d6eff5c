-- Written by pr.py (wip/tools), a program of this session, over the kit's printer.
-- squeezed
import Derived.Test.YtapmhmkekkhhpaaPMoneySplitsx0
import Derived.Test.YtapmhmkekkhhpaaPMoneySplitsx1
import Derived.Test.YtapmhmkekkhhpaaPMoneySplitsx8
import Derived.Test.YtapmhmkekkhhpaaPMoneySplitsx14
namespace Go.Proofs.Ytapmhmkekkhhpaa.PMoneySplits
open Go.RowKit Go.Proofs.YtapmhmkekkhhpaaW.PrintWords Go.Proofs.YtapmhmkekkhhpaaW.PrintLast Go.Proofs.YtapmhmkekkhhpaaW.PrintMore
attribute [local go_sem] max2_int min2_int max_two min_two max_three min_three max_four min_four   -- for this text's walks alone
set_option linter.unusedVariables false
set_option linter.unusedSimpArgs false

/-! ### psephoslaw06_MoneySplits: function 13 -/
mutual
def psephoslaw06_MoneySplits.j0 : Nat → Int → List Int → Bool → Option (Bool)
  | 0, _, _, _ => none
  | k + 1, x0, x1, x19 => if x19 = true then ((psephoslaw06_awake.f).bind fun t453 => (some t453)) else ((money_Split.f k x0 x1).bind fun bt454 => ((psephosref03_Split.f k x0 x1).bind fun bt459 => ((psephoslaw06_same.f k bt454.1 bt459.1).bind fun t464 => (if t464 = true then (if bt454.2.1 = bt459.2.1 then (psephoslaw06_MoneySplits.j1 k x0 x1 bt454.1 bt454.2.1 bt454.2.2 (bt454.2.2 != bt459.2.2)) else (psephoslaw06_MoneySplits.j1 k x0 x1 bt454.1 bt454.2.1 bt454.2.2 true)) else (psephoslaw06_MoneySplits.j1 k x0 x1 bt454.1 bt454.2.1 bt454.2.2 true)))))
def psephoslaw06_MoneySplits.j1 : Nat → Int → List Int → List Int → Int → Int → Bool → Option (Bool)
  | 0, _, _, _, _, _, _ => none
  | k + 1, x0, x1, x5, x6, x7, x48 => if x48 = true then (some false) else (psephoslaw06_MoneySplits.l0 k x0 x1 x5 x6 x7 x6 (x5.length : Int) 0)
def psephoslaw06_MoneySplits.l0 : Nat → Int → List Int → List Int → Int → Int → Int → Int → Int → Option (Bool)
  | 0, _, _, _, _, _, _, _, _ => none
  | k + 1, x0, x1, x5, x6, x7, x11, x51, x52 => if x52 < x51 then (if 0 ≤ x52 then (if x52 < (x5.length : Int) then (psephoslaw06_MoneySplits.l0 k x0 x1 x5 x6 x7 (IntKind.u64.wrap (x11 + (rd x5 x52))) x51 (wrap64 (x52 + 1))) else (none)) else (none)) else (if x7 = 0 then (if x11 = x0 then (some (decide (x6 < (IntKind.u64.wrap ((x1.length : Int)))))) else (some false)) else (some true))
end
def psephoslaw06_MoneySplits.f (k : Nat) (a0 : Int) (l1 : List Int) : Option (Bool) := (psephoslaw06_awake.f).bind fun t452 => (if t452 = true then (psephoslaw06_MoneySplits.j0 k a0 l1 (decide ((l1.length : Int) > 200))) else (psephoslaw06_MoneySplits.j0 k a0 l1 true))
theorem psephoslaw06_MoneySplits.mono_l : ∀ k, (∀ y0 y1 y2, LeO (psephoslaw06_MoneySplits.j0 k y0 y1 y2) (psephoslaw06_MoneySplits.j0 (k + 1) y0 y1 y2)) ∧ (∀ y0 y1 y2 y3 y4 y5, LeO (psephoslaw06_MoneySplits.j1 k y0 y1 y2 y3 y4 y5) (psephoslaw06_MoneySplits.j1 (k + 1) y0 y1 y2 y3 y4 y5)) ∧ (∀ y0 y1 y2 y3 y4 y5 y6 y7, LeO (psephoslaw06_MoneySplits.l0 k y0 y1 y2 y3 y4 y5 y6 y7) (psephoslaw06_MoneySplits.l0 (k + 1) y0 y1 y2 y3 y4 y5 y6 y7))
  | 0 => ⟨fun _ _ _ r h => by simp [psephoslaw06_MoneySplits.j0] at h, fun _ _ _ _ _ _ r h => by simp [psephoslaw06_MoneySplits.j1] at h, fun _ _ _ _ _ _ _ _ r h => by simp [psephoslaw06_MoneySplits.l0] at h⟩
  | k + 1 => by
   obtain ⟨ih0, ih1, ih2⟩ := psephoslaw06_MoneySplits.mono_l k
   refine ⟨?_, ?_, ?_⟩
   ·intro y0 y1 y2
    unfold psephoslaw06_MoneySplits.j0
    repeat' first
    | (with_reducible exact ih0 _ _ _)
    | (with_reducible exact ih1 _ _ _ _ _ _)
    | (with_reducible exact ih2 _ _ _ _ _ _ _ _)
    | (with_reducible exact money_Split.mono _ _ _)
    | (with_reducible exact psephoslaw06_same.mono _ _ _)
    | (with_reducible exact psephosref03_Split.mono _ _ _)
    | (with_reducible exact LeO.refl _)
    | (with_reducible exact LeO.none _)
    | (with_reducible refine LeO.ite ?_ ?_)
    | (with_reducible refine LeO.bind ?_ (fun _ => ?_))
    | exact ih0 _ _ _
    | exact ih1 _ _ _ _ _ _
    | exact ih2 _ _ _ _ _ _ _ _
    | exact money_Split.mono _ _ _
    | exact psephoslaw06_same.mono _ _ _
    | exact psephosref03_Split.mono _ _ _
    | exact LeO.none _
    | refine LeO.ite ?_ ?_
    | refine LeO.bind ?_ (fun _ => ?_)
   ·intro y0 y1 y2 y3 y4 y5
    unfold psephoslaw06_MoneySplits.j1
    repeat' first
    | (with_reducible exact ih0 _ _ _)
    | (with_reducible exact ih1 _ _ _ _ _ _)
    | (with_reducible exact ih2 _ _ _ _ _ _ _ _)
    | (with_reducible exact money_Split.mono _ _ _)
    | (with_reducible exact psephoslaw06_same.mono _ _ _)
    | (with_reducible exact psephosref03_Split.mono _ _ _)
    | (with_reducible exact LeO.refl _)
    | (with_reducible exact LeO.none _)
    | (with_reducible refine LeO.ite ?_ ?_)
    | (with_reducible refine LeO.bind ?_ (fun _ => ?_))
    | exact ih0 _ _ _
    | exact ih1 _ _ _ _ _ _
    | exact ih2 _ _ _ _ _ _ _ _
    | exact money_Split.mono _ _ _
    | exact psephoslaw06_same.mono _ _ _
    | exact psephosref03_Split.mono _ _ _
    | exact LeO.none _
    | refine LeO.ite ?_ ?_
    | refine LeO.bind ?_ (fun _ => ?_)
   ·intro y0 y1 y2 y3 y4 y5 y6 y7
    unfold psephoslaw06_MoneySplits.l0
    repeat' first
    | (with_reducible exact ih0 _ _ _)
    | (with_reducible exact ih1 _ _ _ _ _ _)
    | (with_reducible exact ih2 _ _ _ _ _ _ _ _)
    | (with_reducible exact money_Split.mono _ _ _)
    | (with_reducible exact psephoslaw06_same.mono _ _ _)
    | (with_reducible exact psephosref03_Split.mono _ _ _)
    | (with_reducible exact LeO.refl _)
    | (with_reducible exact LeO.none _)
    | (with_reducible refine LeO.ite ?_ ?_)
    | (with_reducible refine LeO.bind ?_ (fun _ => ?_))
    | exact ih0 _ _ _
    | exact ih1 _ _ _ _ _ _
    | exact ih2 _ _ _ _ _ _ _ _
    | exact money_Split.mono _ _ _
    | exact psephoslaw06_same.mono _ _ _
    | exact psephosref03_Split.mono _ _ _
    | exact LeO.none _
    | refine LeO.ite ?_ ?_
    | refine LeO.bind ?_ (fun _ => ?_)
theorem psephoslaw06_MoneySplits.mono : ∀ a0 a1 k, LeO (psephoslaw06_MoneySplits.f k a0 a1) (psephoslaw06_MoneySplits.f (k + 1) a0 a1) := by
  intro a0 a1 k
  obtain ⟨ih0, ih1, ih2⟩ := psephoslaw06_MoneySplits.mono_l k
  unfold psephoslaw06_MoneySplits.f
  repeat' first
    | (with_reducible exact ih0 _ _ _)
    | (with_reducible exact ih1 _ _ _ _ _ _)
    | (with_reducible exact ih2 _ _ _ _ _ _ _ _)
    | (with_reducible exact money_Split.mono _ _ _)
    | (with_reducible exact psephoslaw06_same.mono _ _ _)
    | (with_reducible exact psephosref03_Split.mono _ _ _)
    | (with_reducible exact LeO.refl _)
    | (with_reducible exact LeO.none _)
    | (with_reducible refine LeO.ite ?_ ?_)
    | (with_reducible refine LeO.bind ?_ (fun _ => ?_))
    | exact ih0 _ _ _
    | exact ih1 _ _ _ _ _ _
    | exact ih2 _ _ _ _ _ _ _ _
    | exact money_Split.mono _ _ _
    | exact psephoslaw06_same.mono _ _ _
    | exact psephosref03_Split.mono _ _ _
    | exact LeO.none _
    | refine LeO.ite ?_ ?_
    | refine LeO.bind ?_ (fun _ => ?_)
set_option maxHeartbeats 8000000 in
set_option maxRecDepth 100000 in
theorem psephoslaw06_MoneySplits.calls (k : Nat) (a0 : Int) (A1 : Option Addr) (c1 : Nat) (l1 : List Int) (r : Bool) (w : World) (hr1 : Kd.C (Kd.int .u64) w A1 l1.length l1) (hc1 : l1.length ≤ c1) (h : psephoslaw06_MoneySplits.f k a0 l1 = some r) :
   Calls Try.prog 13 #[.int .u64 a0, .slice A1 l1.length c1] w fun e w' => e = .returned (.bool r) ∧ Below w.heap.size w w' := by
  have HR1 := asd hr1
  have HC1 := asd hc1
  clear hr1 hc1
  have HB := asd (Below.refl w.heap.size w)
  have H : ((psephoslaw06_awake.f).bind fun t452 => (if t452 = true then (psephoslaw06_MoneySplits.j0 k a0 l1 (decide ((l1.length : Int) > 200))) else (psephoslaw06_MoneySplits.j0 k a0 l1 true))) = some r := h
  clear h
  have HC3 := asd H
  clear H
  go_enter Try.func13, Try.ntmps13
  go_upto_region 1 with (fail)
  go_cut [19] (fun v19 wc => ∃ (kq : Nat) (x19_2 : Bool), v19 = .bool x19_2 ∧ Aside0 (psephoslaw06_MoneySplits.j0 kq a0 l1 x19_2 = some r) ∧ Aside0 (kq ≤ k) ∧ Aside0 (Below w.heap.size w wc))
  case first =>
   have H := HC3.out
   clear HC3
   replace H := Option.bind_eq_some_iff.mp H
   obtain ⟨t452, A40, H⟩ := H
   replace H : (if t452 = true then (psephoslaw06_MoneySplits.j0 k a0 l1 (decide ((l1.length : Int) > 200))) else (psephoslaw06_MoneySplits.j0 k a0 l1 true)) = some r := H
   have A4 := asd A40
   clear A40
   by_cases c5 : t452 = true
   ·subst c5
    have H1 : (psephoslaw06_MoneySplits.j0 k a0 l1 (decide ((l1.length : Int) > 200))) = some r := by rw [if_pos rfl] at H; exact H
    clear H
    have H := H1
    clear H1
    have H' := asd H
    clear H
    go_wp2_with (first | ((with_reducible refine gate_callee (f := 14) rfl ?_); refine goesL_ (some 13) rfl rfl Try.func14 (by kernel_rfl) rfl #[] rfl (by (try simp only [List.map_toArray, List.map_cons, List.map_nil]); first | done | rfl | (simp only [List.length_drop, List.length_take]; rfl)) ?_; (with_reducible refine (psephoslaw06_awake.calls  true _ A4.out).mono ?_); rintro e w' ⟨rfl, ⟨nd, rfl⟩⟩; refine ⟨_, rfl, ?_⟩))
    go_meet
    case rel => exact ⟨_, (decide ((l1.length : Int) > 200)), (by first | rfl | (simp; done) | (simp [*]; done)), H', ⟨by first | omega | exact Nat.le_refl _⟩, ⟨by repeat (first | (with_reducible first | exact HB.out | apply bA_ | apply bN_ | apply bD_) | exact HB.out)⟩⟩
   ·replace c5 := Bool.eq_false_iff.mpr c5
    subst c5
    have H1 : (psephoslaw06_MoneySplits.j0 k a0 l1 true) = some r := by rw [if_neg (show ¬ (false = true) by decide)] at H; exact H
    clear H
    have H := H1
    clear H1
    have H' := asd H
    clear H
    go_wp2_with (first | ((with_reducible refine gate_callee (f := 14) rfl ?_); refine goesL_ (some 13) rfl rfl Try.func14 (by kernel_rfl) rfl #[] rfl (by (try simp only [List.map_toArray, List.map_cons, List.map_nil]); first | done | rfl | (simp only [List.length_drop, List.length_take]; rfl)) ?_; (with_reducible refine (psephoslaw06_awake.calls  false _ A4.out).mono ?_); rintro e w' ⟨rfl, ⟨nd, rfl⟩⟩; refine ⟨_, rfl, ?_⟩))
    go_meet
    case rel => exact ⟨_, (true), (by first | rfl | (simp; done) | (simp [*]; done)), H', ⟨by first | omega | exact Nat.le_refl _⟩, ⟨by repeat (first | (with_reducible first | exact HB.out | apply bA_ | apply bN_ | apply bD_) | exact HB.out)⟩⟩
  case rest =>
   clear HC3
   try clear c1
   try clear p2
   try clear c5
   obtain ⟨kq, x19_2, rfl, HA, HJ2, HB⟩ := hcut
   cases kq with
   | zero => exact absurd HA.out (by simp [psephoslaw06_MoneySplits.j0])
   | succ kj2 =>
    have H := HA.out
    clear HA
    simp only [psephoslaw06_MoneySplits.j0] at H
    by_cases c6 : x19_2 = true
    ·subst c6
     have H1 : ((psephoslaw06_awake.f).bind fun t453 => (some t453)) = some r := by rw [if_pos rfl] at H; exact H
     clear H
     have H := H1
     clear H1
     replace H := Option.bind_eq_some_iff.mp H
     obtain ⟨t453, A70, H⟩ := H
     replace H : (some t453) = some r := H
     have A7 := asd A70
     clear A70
     obtain rfl := Option.some.inj H
     go_wp2_with (first | ((with_reducible refine gate_callee (f := 14) rfl ?_); refine goesL_ (some 20) rfl rfl Try.func14 (by kernel_rfl) rfl #[] rfl (by (try simp only [List.map_toArray, List.map_cons, List.map_nil]); first | done | rfl | (simp only [List.length_drop, List.length_take]; rfl)) ?_; (with_reducible refine (psephoslaw06_awake.calls  t453 _ A7.out).mono ?_); rintro e w' ⟨rfl, ⟨nd, rfl⟩⟩; refine ⟨_, rfl, ?_⟩))
     go_ret
     exact ⟨by first | rfl | (simp [errW_none, errW_some] <;> rfl) | (simp [*, errW_none, errW_some] <;> rfl), by repeat (first | (with_reducible first | exact HB.out | apply bA_ | apply bN_ | apply bD_) | exact HB.out)⟩
    ·replace c6 := Bool.eq_false_iff.mpr c6
     subst c6
     have H1 : ((money_Split.f kj2 a0 l1).bind fun bt454 => ((psephosref03_Split.f kj2 a0 l1).bind fun bt459 => ((psephoslaw06_same.f kj2 bt454.1 bt459.1).bind fun t464 => (if t464 = true then (if bt454.2.1 = bt459.2.1 then (psephoslaw06_MoneySplits.j1 kj2 a0 l1 bt454.1 bt454.2.1 bt454.2.2 (bt454.2.2 != bt459.2.2)) else (psephoslaw06_MoneySplits.j1 kj2 a0 l1 bt454.1 bt454.2.1 bt454.2.2 true)) else (psephoslaw06_MoneySplits.j1 kj2 a0 l1 bt454.1 bt454.2.1 bt454.2.2 true))))) = some r := by rw [if_neg (show ¬ (false = true) by decide)] at H; exact H
     clear H
     have H := H1
     clear H1
     replace H := Option.bind_eq_some_iff.mp H
     obtain ⟨⟨t454, t455, t456⟩, A80, H⟩ := H
     replace H : ((psephosref03_Split.f kj2 a0 l1).bind fun bt459 => ((psephoslaw06_same.f kj2 t454 bt459.1).bind fun t464 => (if t464 = true then (if t455 = bt459.2.1 then (psephoslaw06_MoneySplits.j1 kj2 a0 l1 t454 t455 t456 (t456 != bt459.2.2)) else (psephoslaw06_MoneySplits.j1 kj2 a0 l1 t454 t455 t456 true)) else (psephoslaw06_MoneySplits.j1 kj2 a0 l1 t454 t455 t456 true)))) = some r := H
     have A8 := asd A80
     clear A80
     replace H := Option.bind_eq_some_iff.mp H
     obtain ⟨⟨t459, t460, t461⟩, A90, H⟩ := H
     replace H : ((psephoslaw06_same.f kj2 t454 t459).bind fun t464 => (if t464 = true then (if t455 = t460 then (psephoslaw06_MoneySplits.j1 kj2 a0 l1 t454 t455 t456 (t456 != t461)) else (psephoslaw06_MoneySplits.j1 kj2 a0 l1 t454 t455 t456 true)) else (psephoslaw06_MoneySplits.j1 kj2 a0 l1 t454 t455 t456 true))) = some r := H
     have A9 := asd A90
     clear A90
     have HC10 := asd H
     clear H
     go_upto_region 5 with (first | ((with_reducible refine gate_callee (f := 46) rfl ?_); refine goesL_ (some 24) rfl rfl Try.func46 (by kernel_rfl) rfl #[.int .u64 a0, .slice A1 l1.length c1] rfl (by (try simp only [List.map_toArray, List.map_cons, List.map_nil]); first | done | rfl | (simp only [List.length_drop, List.length_take]; rfl)) ?_; (with_reducible refine (money_Split.calls kj2 a0 _ _ l1 t454 t455 t456 _ ?side1 ?side2 A8.out).mono ?_); (case side1 => repeat (first | exact (Kd.C_below HR1.out HB.out) | (with_reducible refine Kd.C_alloc ?_ _) | (with_reducible refine Kd.C_drewN ?_ _) | (with_reducible refine Kd.C_drew ?_))); (case side2 => exact HC1.out); rintro e w11 ⟨v457, rfl, ho0, hb⟩; refine ⟨_, rfl, ?_⟩; have n0_ := asd (Kd.R_lower ho0 (below_size (by repeat (first | (with_reducible first | exact HB.out | apply bA_ | apply bN_ | apply bD_) | exact HB.out)))); have n1_ := asd (below_step (by repeat (first | (with_reducible first | exact HB.out | apply bA_ | apply bN_ | apply bD_) | exact HB.out)) hb); clear HB; have HO458 := n0_; have HB := n1_; clear n0_ n1_; (try clear hb); (try clear hb2); (try clear hk); (try clear hi); (try clear ho0)) | ((with_reducible refine gate_callee (f := 47) rfl ?_); refine goesL_ (some 31) rfl rfl Try.func47 (by kernel_rfl) rfl #[.int .u64 a0, .slice A1 l1.length c1] rfl (by (try simp only [List.map_toArray, List.map_cons, List.map_nil]); first | done | rfl | (simp only [List.length_drop, List.length_take]; rfl)) ?_; (with_reducible refine (psephosref03_Split.calls kj2 a0 _ _ l1 t459 t460 t461 _ ?side1 ?side2 A9.out).mono ?_); (case side1 => repeat (first | exact (Kd.C_below HR1.out HB.out) | (with_reducible refine Kd.C_alloc ?_ _) | (with_reducible refine Kd.C_drewN ?_ _) | (with_reducible refine Kd.C_drew ?_))); (case side2 => exact HC1.out); rintro e w12 ⟨v462, rfl, ho0, hb⟩; refine ⟨_, rfl, ?_⟩; have n0_ := asd (Kd.R_elder' (by (with_reducible repeat (first | apply Kd.R_alloc | apply Kd.R_drewN | apply Kd.R_drew)); exact HO458.out) (Kd.R_base ho0) hb); have n1_ := asd (Kd.R_lower (Kd.R_new' ho0 (Kd.R_lt (by (with_reducible repeat (first | apply Kd.R_alloc | apply Kd.R_drewN | apply Kd.R_drew)); exact HO458.out))) (below_size (by repeat (first | (with_reducible first | exact HB.out | apply bA_ | apply bN_ | apply bD_) | exact HB.out)))); have n2_ := asd (below_step (by repeat (first | (with_reducible first | exact HB.out | apply bA_ | apply bN_ | apply bD_) | exact HB.out)) hb); clear HO458; clear HB; have HO458 := n0_; have HO463 := n1_; have HB := n2_; clear n0_ n1_ n2_; (try clear hb); (try clear hb2); (try clear hk); (try clear hi); (try clear ho0)))
     (try simp only [Act.put, List.setIfInBounds_toArray, List.set_cons_zero, List.set_cons_succ])
     go_cut [48] (fun v48 wc => ∃ (kq : Nat) (x48_9 : Bool), v48 = .bool x48_9 ∧ Aside0 (psephoslaw06_MoneySplits.j1 kq a0 l1 t454 t455 t456 x48_9 = some r) ∧ Aside0 (kq ≤ kj2) ∧ Aside0 (Kd.R (Kd.int .u64) 22 wc w.heap.size (fun _ => True) v457 t454) ∧ Aside0 (Below w.heap.size w wc))
     case first =>
      have H := HC10.out
      clear HC10
      replace H := Option.bind_eq_some_iff.mp H
      obtain ⟨t464, A130, H⟩ := H
      replace H : (if t464 = true then (if t455 = t460 then (psephoslaw06_MoneySplits.j1 kj2 a0 l1 t454 t455 t456 (t456 != t461)) else (psephoslaw06_MoneySplits.j1 kj2 a0 l1 t454 t455 t456 true)) else (psephoslaw06_MoneySplits.j1 kj2 a0 l1 t454 t455 t456 true)) = some r := H
      have A13 := asd A130
      clear A130
      by_cases c14 : t464 = true
      ·subst c14
       have H1 : (if t455 = t460 then (psephoslaw06_MoneySplits.j1 kj2 a0 l1 t454 t455 t456 (t456 != t461)) else (psephoslaw06_MoneySplits.j1 kj2 a0 l1 t454 t455 t456 true)) = some r := by rw [if_pos rfl] at H; exact H
       clear H
       have H := H1
       clear H1
       by_cases c15 : t455 = t460
       ·rw [if_pos c15] at H
        have c15b0 : (t455 == t460) = true := beq_iff_eq.mpr c15
        have c15b1 : (t455 != t460) = false := bne_eq_false_iff_eq.mpr c15
        clear c15
        (first | rw [c15b0] | (simp only [i64_w, i32_w]; rw [c15b0]) | skip)
        have H' := asd H
        clear H
        obtain ⟨Ao16, co16, eo16⟩ := Kd.R_slice HO458.out
        subst eo16
        obtain ⟨Ao17, co17, eo17⟩ := Kd.R_slice HO463.out
        subst eo17
        go_wp2_with (first | ((with_reducible refine gate_callee (f := 48) rfl ?_); refine goesL_ (some 37) rfl rfl Try.func48 (by kernel_rfl) rfl #[.slice Ao16 t454.length co16, .slice Ao17 t459.length co17] rfl (by (try simp only [List.map_toArray, List.map_cons, List.map_nil]); first | done | rfl | (simp only [List.length_drop, List.length_take]; rfl)) ?_; (with_reducible refine (psephoslaw06_same.calls kj2 _ _ t454 _ _ t459 true _ ?side1 ?side2 ?side3 ?side4 A13.out).mono ?_); (case side1 => repeat (first | exact (Kd.R_reads' HO458.out).2.2 | (with_reducible refine Kd.C_alloc ?_ _) | (with_reducible refine Kd.C_drewN ?_ _) | (with_reducible refine Kd.C_drew ?_))); (case side2 => exact (Kd.R_reads' HO458.out).2.1); (case side3 => repeat (first | exact (Kd.R_reads' HO463.out).2.2 | (with_reducible refine Kd.C_alloc ?_ _) | (with_reducible refine Kd.C_drewN ?_ _) | (with_reducible refine Kd.C_drew ?_))); (case side4 => exact (Kd.R_reads' HO463.out).2.1); rintro e w' ⟨rfl, ⟨nd, rfl⟩⟩; refine ⟨_, rfl, ?_⟩))
        go_meet
        case rel => exact ⟨_, ((t456 != t461)), (by first | rfl | (simp; done) | (simp [*]; done)), H', ⟨by have := HJ2.out; first | omega | exact Nat.le_refl _⟩, ⟨by (with_reducible repeat (first | apply Kd.R_alloc | apply Kd.R_drewN | apply Kd.R_drew)); exact Kd.R_mono HO458.out (fun _ hk => trivial)⟩, ⟨by repeat (first | (with_reducible first | exact HB.out | apply bA_ | apply bN_ | apply bD_) | exact HB.out)⟩⟩
       ·rw [if_neg c15] at H
        have c15b0 : (t455 == t460) = false := beq_eq_false_iff_ne.mpr c15
        have c15b1 : (t455 != t460) = true := bne_iff_ne.mpr c15
        (first | rw [c15b0] | (simp only [i64_w, i32_w]; rw [c15b0]) | skip)
        have H' := asd H
        clear H
        obtain ⟨Ao18, co18, eo18⟩ := Kd.R_slice HO458.out
        subst eo18
        obtain ⟨Ao19, co19, eo19⟩ := Kd.R_slice HO463.out
        subst eo19
        go_wp2_with (first | ((with_reducible refine gate_callee (f := 48) rfl ?_); refine goesL_ (some 37) rfl rfl Try.func48 (by kernel_rfl) rfl #[.slice Ao18 t454.length co18, .slice Ao19 t459.length co19] rfl (by (try simp only [List.map_toArray, List.map_cons, List.map_nil]); first | done | rfl | (simp only [List.length_drop, List.length_take]; rfl)) ?_; (with_reducible refine (psephoslaw06_same.calls kj2 _ _ t454 _ _ t459 true _ ?side1 ?side2 ?side3 ?side4 A13.out).mono ?_); (case side1 => repeat (first | exact (Kd.R_reads' HO458.out).2.2 | (with_reducible refine Kd.C_alloc ?_ _) | (with_reducible refine Kd.C_drewN ?_ _) | (with_reducible refine Kd.C_drew ?_))); (case side2 => exact (Kd.R_reads' HO458.out).2.1); (case side3 => repeat (first | exact (Kd.R_reads' HO463.out).2.2 | (with_reducible refine Kd.C_alloc ?_ _) | (with_reducible refine Kd.C_drewN ?_ _) | (with_reducible refine Kd.C_drew ?_))); (case side4 => exact (Kd.R_reads' HO463.out).2.1); rintro e w' ⟨rfl, ⟨nd, rfl⟩⟩; refine ⟨_, rfl, ?_⟩))
        go_meet
        case rel => exact ⟨_, (true), (by first | rfl | (simp; done) | (simp [*]; done)), H', ⟨by have := HJ2.out; first | omega | exact Nat.le_refl _⟩, ⟨by (with_reducible repeat (first | apply Kd.R_alloc | apply Kd.R_drewN | apply Kd.R_drew)); exact Kd.R_mono HO458.out (fun _ hk => trivial)⟩, ⟨by repeat (first | (with_reducible first | exact HB.out | apply bA_ | apply bN_ | apply bD_) | exact HB.out)⟩⟩
      ·replace c14 := Bool.eq_false_iff.mpr c14
       subst c14
       have H1 : (psephoslaw06_MoneySplits.j1 kj2 a0 l1 t454 t455 t456 true) = some r := by rw [if_neg (show ¬ (false = true) by decide)] at H; exact H
       clear H
       have H := H1
       clear H1
       have H' := asd H
       clear H
       obtain ⟨Ao20, co20, eo20⟩ := Kd.R_slice HO458.out
       subst eo20
       obtain ⟨Ao21, co21, eo21⟩ := Kd.R_slice HO463.out
       subst eo21
       go_wp2_with (first | ((with_reducible refine gate_callee (f := 48) rfl ?_); refine goesL_ (some 37) rfl rfl Try.func48 (by kernel_rfl) rfl #[.slice Ao20 t454.length co20, .slice Ao21 t459.length co21] rfl (by (try simp only [List.map_toArray, List.map_cons, List.map_nil]); first | done | rfl | (simp only [List.length_drop, List.length_take]; rfl)) ?_; (with_reducible refine (psephoslaw06_same.calls kj2 _ _ t454 _ _ t459 false _ ?side1 ?side2 ?side3 ?side4 A13.out).mono ?_); (case side1 => repeat (first | exact (Kd.R_reads' HO458.out).2.2 | (with_reducible refine Kd.C_alloc ?_ _) | (with_reducible refine Kd.C_drewN ?_ _) | (with_reducible refine Kd.C_drew ?_))); (case side2 => exact (Kd.R_reads' HO458.out).2.1); (case side3 => repeat (first | exact (Kd.R_reads' HO463.out).2.2 | (with_reducible refine Kd.C_alloc ?_ _) | (with_reducible refine Kd.C_drewN ?_ _) | (with_reducible refine Kd.C_drew ?_))); (case side4 => exact (Kd.R_reads' HO463.out).2.1); rintro e w' ⟨rfl, ⟨nd, rfl⟩⟩; refine ⟨_, rfl, ?_⟩))
       go_meet
       case rel => exact ⟨_, (true), (by first | rfl | (simp; done) | (simp [*]; done)), H', ⟨by have := HJ2.out; first | omega | exact Nat.le_refl _⟩, ⟨by (with_reducible repeat (first | apply Kd.R_alloc | apply Kd.R_drewN | apply Kd.R_drew)); exact Kd.R_mono HO458.out (fun _ hk => trivial)⟩, ⟨by repeat (first | (with_reducible first | exact HB.out | apply bA_ | apply bN_ | apply bD_) | exact HB.out)⟩⟩
     case rest =>
      clear HC10
      try clear c1
      try clear p2
      try clear c4
      try clear c5
      try clear c6
      try clear c13
      try clear c14
      try clear c15
      try clear c15b0
      try clear c15b1
      try clear p2
      obtain ⟨kq, x48_9, rfl, HA, HJ9, HO_5, HB⟩ := hcut
      cases kq with
      | zero => exact absurd HA.out (by simp [psephoslaw06_MoneySplits.j1])
      | succ kj9 =>
       have H := HA.out
       clear HA
       simp only [psephoslaw06_MoneySplits.j1] at H
       by_cases c22 : x48_9 = true
       ·subst c22
        have H1 : (some false) = some r := by rw [if_pos rfl] at H; exact H
        clear H
        have H := H1
        clear H1
        obtain rfl := Option.some.inj H
        go_wp2
        go_ret
        exact ⟨by first | rfl | (simp [errW_none, errW_some] <;> rfl) | (simp [*, errW_none, errW_some] <;> rfl), by repeat (first | (with_reducible first | exact HB.out | apply bA_ | apply bN_ | apply bD_) | exact HB.out)⟩
       ·replace c22 := Bool.eq_false_iff.mpr c22
        subst c22
        have H1 : (psephoslaw06_MoneySplits.l0 kj9 a0 l1 t454 t455 t456 t455 (t454.length : Int) 0) = some r := by rw [if_neg (show ¬ (false = true) by decide)] at H; exact H
        clear H
        have H := H1
        clear H1
        have H' := asd H
        clear H
        obtain ⟨Ao23, co23, eo23⟩ := Kd.R_slice HO_5.out
        subst eo23
        go_wp2
        go_loopg [11, 52] kj9 (fun kq v11 v52 w' => ∃ (x11_3 : Int) (x52_3 : Int), v11 = .int .u64 x11_3 ∧ v52 = .int .i64 x52_3 ∧ Aside0 (psephoslaw06_MoneySplits.l0 kq a0 l1 t454 t455 t456 x11_3 (t454.length : Int) x52_3 = some r) ∧ Aside0 (kq ≤ kj9) ∧ Aside0 (Kd.R (Kd.int .u64) 22 w' w.heap.size (fun _ => True) (.slice Ao23 t454.length co23) t454) ∧ Aside0 (Below w.heap.size w w'))
        case atStart => exact ⟨(t455), (0), (by first | rfl | (simp; done) | (simp [*]; done)), (by first | rfl | (simp; done) | (simp [*]; done)), H', ⟨Nat.le_refl _⟩, ⟨by (with_reducible repeat (first | apply Kd.R_alloc | apply Kd.R_drewN | apply Kd.R_drew)); exact HO_5.out⟩, ⟨by repeat (first | (with_reducible first | exact HB.out | apply bA_ | apply bN_ | apply bD_) | exact HB.out)⟩⟩
        case round =>
         clear H'
         try clear c1
         try clear c2
         try clear p2
         try clear c4
         try clear c5
         try clear c6
         try clear c13
         try clear c14
         try clear c15
         try clear c15b0
         try clear c15b1
         try clear c22
         try clear p2
         obtain ⟨x11_3, x52_3, rfl, rfl, HA, HK3, HO_5, HB⟩ := hrel
         cases gk with
         | zero => exact absurd HA.out (by simp [psephoslaw06_MoneySplits.l0])
         | succ k3 =>
          have H := HA.out
          clear HA
          simp only [psephoslaw06_MoneySplits.l0] at H
          by_cases c24 : x52_3 < (t454.length : Int)
          ·rw [if_pos c24] at H
           have c24b0 : decide (x52_3 < (t454.length : Int)) = true := decide_eq_true c24
           clear c24
           by_cases c25 : 0 ≤ x52_3
           ·rw [if_pos c25] at H
            have c25b0 : decide (0 ≤ x52_3) = true := decide_eq_true c25
            clear c25
            by_cases c26 : x52_3 < (t454.length : Int)
            ·rw [if_pos c26] at H
             have c26b0 : decide (x52_3 < (t454.length : Int)) = true := decide_eq_true c26
             clear c26
             have H' := asd H
             clear H
             have p465 : 0 ≤ (x52_3 : Int) := of_decide_eq_true (by first | (with_reducible assumption) | assumption)
             have q465 : x52_3 < (t454.length : Int) := of_decide_eq_true (by first | (with_reducible assumption) | assumption)
             obtain ⟨ad465, e465, hx465_0⟩ := Kd.at_int (Kd.R_reads' HO_5.out).2.2 x52_3 p465 q465
             cases e465
             replace p465 := eq_true p465
             replace q465 := eq_true q465
             go_wp2
             go_roundg k3
             case measure => have := HJ2.out; have := HJ9.out; have := HK3.out; omega
             case rel => exact ⟨(IntKind.u64.wrap (x11_3 + (rd t454 x52_3))), (wrap64 (x52_3 + 1)), (by first | rfl | (simp; done) | (simp [*]; done)), (by first | rfl | (simp; done) | (simp [*]; done)), H', ⟨by have := HJ2.out; have := HJ9.out; have := HK3.out; omega⟩, ⟨by (with_reducible repeat (first | apply Kd.R_alloc | apply Kd.R_drewN | apply Kd.R_drew)); exact HO_5.out⟩, ⟨by repeat (first | (with_reducible first | exact HB.out | apply bA_ | apply bN_ | apply bD_) | exact HB.out)⟩⟩
            ·rw [if_neg c26] at H
             exact absurd H (by simp)
           ·rw [if_neg c25] at H
            exact absurd H (by simp)
          ·rw [if_neg c24] at H
           have c24b0 : decide (x52_3 < (t454.length : Int)) = false := decide_eq_false c24
           clear c24
           by_cases c27 : t456 = 0
           ·rw [if_pos c27] at H
            have c27b0 : (t456 == 0) = true := beq_iff_eq.mpr c27
            have c27b1 : (t456 != 0) = false := bne_eq_false_iff_eq.mpr c27
            clear c27
            by_cases c28 : x11_3 = a0
            ·rw [if_pos c28] at H
             have c28b0 : (x11_3 == a0) = true := beq_iff_eq.mpr c28
             have c28b1 : (x11_3 != a0) = false := bne_eq_false_iff_eq.mpr c28
             clear c28
             obtain rfl := Option.some.inj H
             go_wp2
             go_ret
             exact ⟨by first | rfl | (simp [errW_none, errW_some] <;> rfl) | (simp [*, errW_none, errW_some] <;> rfl), by repeat (first | (with_reducible first | exact HB.out | apply bA_ | apply bN_ | apply bD_) | exact HB.out)⟩
            ·rw [if_neg c28] at H
             have c28b0 : (x11_3 == a0) = false := beq_eq_false_iff_ne.mpr c28
             have c28b1 : (x11_3 != a0) = true := bne_iff_ne.mpr c28
             obtain rfl := Option.some.inj H
             go_wp2
             go_ret
             exact ⟨by first | rfl | (simp [errW_none, errW_some] <;> rfl) | (simp [*, errW_none, errW_some] <;> rfl), by repeat (first | (with_reducible first | exact HB.out | apply bA_ | apply bN_ | apply bD_) | exact HB.out)⟩
           ·rw [if_neg c27] at H
            have c27b0 : (t456 == 0) = false := beq_eq_false_iff_ne.mpr c27
            have c27b1 : (t456 != 0) = true := bne_iff_ne.mpr c27
            obtain rfl := Option.some.inj H
            go_wp2
            go_ret
            exact ⟨by first | rfl | (simp [errW_none, errW_some] <;> rfl) | (simp [*, errW_none, errW_some] <;> rfl), by repeat (first | (with_reducible first | exact HB.out | apply bA_ | apply bN_ | apply bD_) | exact HB.out)⟩

/-- THE ONE PURE STATEMENT of psephoslaw06_MoneySplits: yours. -/
def psephoslaw06_MoneySplits.Pure : Prop := ∀ (a0 : Int) (l1 : List Int), (Lit.int .u64 a0).wf = true → l1.length ≤ maxLen → l1.length * 8 ≤ 140737488351232 → (∀ x ∈ l1, (Lit.int .u64 x).wf = true) → ∃ k, psephoslaw06_MoneySplits.f k a0 l1 = some true
theorem psephoslaw06_MoneySplits.walk (P : psephoslaw06_MoneySplits.Pure) (a0 : Int) (a1 : Option Addr) (len1 cap1 : Nat) (z1 : List Int) (w : World) (w0 : (Lit.int .u64 a0).wf = true) (w1 : (a1 = none ∧ len1 = 0 ∧ cap1 = 0 ∧ z1 = []) ∨ ∃ x, a1 = some x ∧ len1 ≤ cap1 ∧ cap1 ≤ maxLen ∧ z1.length = cap1 ∧ (∀ i, i < z1.length → w.cell? (x.add i) = some (.int .u64 (z1.getD i 0))) ∧ ∀ n ∈ z1, (Lit.int .u64 n).wf = true) (y1 : len1 * 8 ≤ 140737488351232) :
   Calls Try.prog 13 #[.int .u64 a0, .slice a1 len1 cap1] w fun e w' => e = .returned (.bool true) ∧ Below w.heap.size w w' := by
  obtain ⟨l1, rfl, hr1, hm1, hw1, hc1⟩ := ReadsInt.ofRowC w1
  obtain ⟨k, h⟩ := P a0 l1 w0 hm1 y1 hw1
  refine (psephoslaw06_MoneySplits.calls k a0 _ _ l1 true w (Kd.C_of_reads (d := (0 : Int)) (h1 := fun _ => rfl) hr1) hc1 h).mono ?_
  rintro e w' ⟨rfl, hd⟩
  exact ⟨rfl, hd⟩

end Go.Proofs.Ytapmhmkekkhhpaa.PMoneySplits
