-- Written by pr.py (wip/tools), a program of this session, over the kit's printer.
-- squeezed
import Derived.Test.YtapmhmkekkhhpaaPMoneySplitsx0
import Derived.Test.YtapmhmkekkhhpaaPMoneySplitsx8
namespace Go.Proofs.Ytapmhmkekkhhpaa.PMoneySplits
open Go.RowKit Go.Proofs.YtapmhmkekkhhpaaW.PrintWords Go.Proofs.YtapmhmkekkhhpaaW.PrintLast Go.Proofs.YtapmhmkekkhhpaaW.PrintMore
attribute [local go_sem] max2_int min2_int max_two min_two max_three min_three max_four min_four   -- for this text's walks alone
set_option linter.unusedVariables false
set_option linter.unusedSimpArgs false

/-! ### psephosref03_Sum: function 20 -/
def psephosref03_Sum.l0 : Nat → List Int → Int → Int → Int → Option (Int × Int)
  | 0, _, _, _, _ => none
  | k + 1, x0, x4, x9, x10 => if x10 < x9 then (if 0 ≤ x10 then (if x10 < (x0.length : Int) then ((psephosref03_Add.f x4 (rd x0 x10)).bind fun bt288 => (if bt288.2 = 0 then (psephosref03_Sum.l0 k x0 bt288.1 x9 (wrap64 (x10 + 1))) else (some (0, bt288.2)))) else (none)) else (none)) else (some (x4, 0))
def psephosref03_Sum.f (k : Nat) (l0 : List Int) : Option (Int × Int) := psephosref03_Sum.l0 k l0 0 (l0.length : Int) 0
theorem psephosref03_Sum.mono_l : ∀ k, (∀ y0 y1 y2 y3, LeO (psephosref03_Sum.l0 k y0 y1 y2 y3) (psephosref03_Sum.l0 (k + 1) y0 y1 y2 y3))
  | 0 => fun _ _ _ _ r h => by simp [psephosref03_Sum.l0] at h
  | k + 1 => by
   have ih0 := psephosref03_Sum.mono_l k
   ·intro y0 y1 y2 y3
    unfold psephosref03_Sum.l0
    repeat' first
    | (with_reducible exact ih0 _ _ _ _)
    | (with_reducible exact LeO.refl _)
    | (with_reducible exact LeO.none _)
    | (with_reducible refine LeO.ite ?_ ?_)
    | (with_reducible refine LeO.bind ?_ (fun _ => ?_))
    | exact ih0 _ _ _ _
    | exact LeO.none _
    | refine LeO.ite ?_ ?_
    | refine LeO.bind ?_ (fun _ => ?_)
theorem psephosref03_Sum.mono : ∀ a0 k, LeO (psephosref03_Sum.f k a0) (psephosref03_Sum.f (k + 1) a0) := by
  intro a0 k
  have ih0 := psephosref03_Sum.mono_l k
  unfold psephosref03_Sum.f
  repeat' first
    | (with_reducible exact ih0 _ _ _ _)
    | (with_reducible exact LeO.refl _)
    | (with_reducible exact LeO.none _)
    | (with_reducible refine LeO.ite ?_ ?_)
    | (with_reducible refine LeO.bind ?_ (fun _ => ?_))
    | exact ih0 _ _ _ _
    | exact LeO.none _
    | refine LeO.ite ?_ ?_
    | refine LeO.bind ?_ (fun _ => ?_)
set_option maxHeartbeats 8000000 in
set_option maxRecDepth 100000 in
theorem psephosref03_Sum.calls (k : Nat) (A0 : Option Addr) (c0 : Nat) (l0 : List Int) (r1 : Int) (r2 : Int) (w : World) (hr0 : Kd.C (Kd.int .u64) w A0 l0.length l0) (hc0 : l0.length ≤ c0) (h : psephosref03_Sum.f k l0 = some (r1, r2)) :
   Calls Try.prog 20 #[.slice A0 l0.length c0] w fun e w' => e = .returned (.tuple #[.int .u64 r1, .int .i64 r2]) ∧ Drawn0 w w' := by
  have HR0 := asd hr0
  have HC0 := asd hc0
  clear hr0 hc0
  have H : (psephosref03_Sum.l0 k l0 0 (l0.length : Int) 0) = some (r1, r2) := h
  clear h
  have H' := asd H
  clear H
  go_enter Try.func20, Try.ntmps20
  go_wp2
  go_loopg [4, 10] k (fun kq v4 v10 w' => ∃ (x4_1 : Int) (x10_1 : Int), v4 = .int .u64 x4_1 ∧ v10 = .int .i64 x10_1 ∧ Aside0 (psephosref03_Sum.l0 kq l0 x4_1 (l0.length : Int) x10_1 = some (r1, r2)) ∧ Aside0 (kq ≤ k) ∧ Drawn0 w w')
  case atStart => exact ⟨(0), (0), (by first | rfl | (simp; done) | (simp [*]; done)), (by first | rfl | (simp; done) | (simp [*]; done)), H', ⟨Nat.le_refl _⟩, by repeat (first | exact Drawn0.refl _ | apply Drawn0.step)⟩
  case round =>
   clear H'
   obtain ⟨x4_1, x10_1, rfl, rfl, HA, HK1, ⟨m1, rfl⟩⟩ := hrel
   cases gk with
   | zero => exact absurd HA.out (by simp [psephosref03_Sum.l0])
   | succ k1 =>
    have H := HA.out
    clear HA
    simp only [psephosref03_Sum.l0] at H
    by_cases c2 : x10_1 < (l0.length : Int)
    ·rw [if_pos c2] at H
     have c2b0 : decide (x10_1 < (l0.length : Int)) = true := decide_eq_true c2
     clear c2
     by_cases c3 : 0 ≤ x10_1
     ·rw [if_pos c3] at H
      have c3b0 : decide (0 ≤ x10_1) = true := decide_eq_true c3
      clear c3
      by_cases c4 : x10_1 < (l0.length : Int)
      ·rw [if_pos c4] at H
       have c4b0 : decide (x10_1 < (l0.length : Int)) = true := decide_eq_true c4
       clear c4
       replace H := Option.bind_eq_some_iff.mp H
       obtain ⟨⟨t288, t289⟩, A50, H⟩ := H
       replace H : (if t289 = 0 then (psephosref03_Sum.l0 k1 l0 t288 (l0.length : Int) (wrap64 (x10_1 + 1))) else (some (0, t289))) = some (r1, r2) := H
       have A5 := asd A50
       clear A50
       by_cases c6 : t289 = 0
       ·rw [if_pos c6] at H
        have c6b0 : (t289 == 0) = true := beq_iff_eq.mpr c6
        have c6b1 : (t289 != 0) = false := bne_eq_false_iff_eq.mpr c6
        clear c6
        have H' := asd H
        clear H
        have p287 : 0 ≤ (x10_1 : Int) := of_decide_eq_true (by first | (with_reducible assumption) | assumption)
        have q287 : x10_1 < (l0.length : Int) := of_decide_eq_true (by first | (with_reducible assumption) | assumption)
        obtain ⟨ad287, e287, hx287_0⟩ := Kd.at_int HR0.out x10_1 p287 q287
        cases e287
        replace p287 := eq_true p287
        replace q287 := eq_true q287
        go_wp2_with (first | ((with_reducible refine gate_callee (f := 16) rfl ?_); refine goesL_ (some 19) rfl rfl Try.func16 (by kernel_rfl) rfl #[.int .u64 x4_1, .int .u64 (rd l0 x10_1)] rfl (by (try simp only [List.map_toArray, List.map_cons, List.map_nil]); first | done | rfl | (simp only [List.length_drop, List.length_take]; rfl)) ?_; (with_reducible refine (psephosref03_Add.calls x4_1 (rd l0 x10_1) t288 t289 _ A5.out).mono ?_); rintro e w' ⟨rfl, ⟨nd, rfl⟩⟩; refine ⟨_, rfl, ?_⟩))
        go_roundg k1
        case measure => have := HK1.out; omega
        case rel => exact ⟨(t288), (wrap64 (x10_1 + 1)), (by first | rfl | (simp; done) | (simp [*]; done)), (by first | rfl | (simp; done) | (simp [*]; done)), H', ⟨by have := HK1.out; omega⟩, by repeat (first | exact Drawn0.refl _ | apply Drawn0.step)⟩
       ·rw [if_neg c6] at H
        have c6b0 : (t289 == 0) = false := beq_eq_false_iff_ne.mpr c6
        have c6b1 : (t289 != 0) = true := bne_iff_ne.mpr c6
        simp only [Option.some.injEq, Prod.mk.injEq] at H
        obtain ⟨rfl, rfl⟩ := H
        have p287 : 0 ≤ (x10_1 : Int) := of_decide_eq_true (by first | (with_reducible assumption) | assumption)
        have q287 : x10_1 < (l0.length : Int) := of_decide_eq_true (by first | (with_reducible assumption) | assumption)
        obtain ⟨ad287, e287, hx287_0⟩ := Kd.at_int HR0.out x10_1 p287 q287
        cases e287
        replace p287 := eq_true p287
        replace q287 := eq_true q287
        go_wp2_with (first | ((with_reducible refine gate_callee (f := 16) rfl ?_); refine goesL_ (some 19) rfl rfl Try.func16 (by kernel_rfl) rfl #[.int .u64 x4_1, .int .u64 (rd l0 x10_1)] rfl (by (try simp only [List.map_toArray, List.map_cons, List.map_nil]); first | done | rfl | (simp only [List.length_drop, List.length_take]; rfl)) ?_; (with_reducible refine (psephosref03_Add.calls x4_1 (rd l0 x10_1) t288 t289 _ A5.out).mono ?_); rintro e w' ⟨rfl, ⟨nd, rfl⟩⟩; refine ⟨_, rfl, ?_⟩))
        go_ret2
        exact ⟨by first | rfl | (simp; done) | (simp [*]; done), by repeat (first | exact Drawn0.refl _ | apply Drawn0.step)⟩
      ·rw [if_neg c4] at H
       exact absurd H (by simp)
     ·rw [if_neg c3] at H
      exact absurd H (by simp)
    ·rw [if_neg c2] at H
     have c2b0 : decide (x10_1 < (l0.length : Int)) = false := decide_eq_false c2
     clear c2
     simp only [Option.some.injEq, Prod.mk.injEq] at H
     obtain ⟨rfl, rfl⟩ := H
     go_wp2
     go_ret2
     exact ⟨by first | rfl | (simp; done) | (simp [*]; done), by repeat (first | exact Drawn0.refl _ | apply Drawn0.step)⟩

/-! ### psephosref01_trim: function 51 -/
def psephosref01_trim.l0 : Nat → List Int → Int → Option (List Int)
  | 0, _, _ => none
  | k + 1, x0, x3 => if x3 > 0 then (if 0 ≤ (wrap64 (x3 - 1)) then (if (wrap64 (x3 - 1)) < (x0.length : Int) then (if (rd x0 (wrap64 (x3 - 1))) = 0 then (psephosref01_trim.l0 k x0 (wrap64 (x3 - 1))) else ((some (([] : List Int) : List Int)).bind fun y291 => (if 0 ≤ x3 then (if x3 ≤ (x0.length : Int) then (if y291.length + (x0.take (x3 : Int).toNat).length < 35184372088832 then (some (y291 ++ (x0.take (x3 : Int).toNat))) else (none)) else (none)) else (none)))) else (none)) else (none)) else ((some (([] : List Int) : List Int)).bind fun y298 => (if 0 ≤ x3 then (if x3 ≤ (x0.length : Int) then (if y298.length + (x0.take (x3 : Int).toNat).length < 35184372088832 then (some (y298 ++ (x0.take (x3 : Int).toNat))) else (none)) else (none)) else (none)))
def psephosref01_trim.f (k : Nat) (l0 : List Int) : Option (List Int) := psephosref01_trim.l0 k l0 (l0.length : Int)
theorem psephosref01_trim.mono_l : ∀ k, (∀ y0 y1, LeO (psephosref01_trim.l0 k y0 y1) (psephosref01_trim.l0 (k + 1) y0 y1))
  | 0 => fun _ _ r h => by simp [psephosref01_trim.l0] at h
  | k + 1 => by
   have ih0 := psephosref01_trim.mono_l k
   ·intro y0 y1
    unfold psephosref01_trim.l0
    repeat' first
    | (with_reducible exact ih0 _ _)
    | (with_reducible exact LeO.refl _)
    | (with_reducible exact LeO.none _)
    | (with_reducible refine LeO.ite ?_ ?_)
    | (with_reducible refine LeO.bind ?_ (fun _ => ?_))
    | exact ih0 _ _
    | exact LeO.none _
    | refine LeO.ite ?_ ?_
    | refine LeO.bind ?_ (fun _ => ?_)
theorem psephosref01_trim.mono : ∀ a0 k, LeO (psephosref01_trim.f k a0) (psephosref01_trim.f (k + 1) a0) := by
  intro a0 k
  have ih0 := psephosref01_trim.mono_l k
  unfold psephosref01_trim.f
  repeat' first
    | (with_reducible exact ih0 _ _)
    | (with_reducible exact LeO.refl _)
    | (with_reducible exact LeO.none _)
    | (with_reducible refine LeO.ite ?_ ?_)
    | (with_reducible refine LeO.bind ?_ (fun _ => ?_))
    | exact ih0 _ _
    | exact LeO.none _
    | refine LeO.ite ?_ ?_
    | refine LeO.bind ?_ (fun _ => ?_)
set_option maxHeartbeats 8000000 in
set_option maxRecDepth 100000 in
theorem psephosref01_trim.calls (k : Nat) (A0 : Option Addr) (c0 : Nat) (l0 : List Int) (r : List Int) (w : World) (hr0 : Kd.C (Kd.int .u32) w A0 l0.length l0) (hc0 : l0.length ≤ c0) (h : psephosref01_trim.f k l0 = some r) :
   Calls Try.prog 51 #[.slice A0 l0.length c0] w fun e w' => ∃ v0_ : Value, e = .returned (v0_) ∧ Kd.R (Kd.int .u32) 59 w' w.heap.size (fun _ => True) v0_ r ∧ Below w.heap.size w w' := by
  have HR0 := asd hr0
  have HC0 := asd hc0
  clear hr0 hc0
  have HB := asd (Below.refl w.heap.size w)
  have H : (psephosref01_trim.l0 k l0 (l0.length : Int)) = some r := h
  clear h
  have H' := asd H
  clear H
  go_enter Try.func51, Try.ntmps51
  go_wp2
  go_loopg [3] k (fun kq v3 w' => ∃ (x3_1 : Int), v3 = .int .i64 x3_1 ∧ Aside0 (psephosref01_trim.l0 kq l0 x3_1 = some r) ∧ Aside0 (kq ≤ k) ∧ Aside0 (Below w.heap.size w w'))
  case atStart => exact ⟨((l0.length : Int)), (by first | rfl | (simp; done) | (simp [*]; done)), H', ⟨Nat.le_refl _⟩, ⟨by repeat (first | (with_reducible first | exact HB.out | apply bA_ | apply bN_ | apply bD_) | exact HB.out)⟩⟩
  case round =>
   clear H'
   obtain ⟨x3_1, rfl, HA, HK1, HB⟩ := hrel
   cases gk with
   | zero => exact absurd HA.out (by simp [psephosref01_trim.l0])
   | succ k1 =>
    have H := HA.out
    clear HA
    simp only [psephosref01_trim.l0] at H
    by_cases c2 : x3_1 > 0
    ·rw [if_pos c2] at H
     have c2b0 : decide (0 < x3_1) = true := decide_eq_true c2
     clear c2
     obtain ⟨ji3, hji3⟩ : ∃ j_ : Int, (wrap64 (x3_1 - 1)) = j_ := ⟨_, rfl⟩
     replace H : (if 0 ≤ (ji3) then (if (ji3) < (l0.length : Int) then (if (rd l0 (ji3)) = 0 then (psephosref01_trim.l0 k1 l0 ji3) else ((some (([] : List Int) : List Int)).bind fun y291 => (if 0 ≤ x3_1 then (if x3_1 ≤ (l0.length : Int) then (if y291.length + (l0.take (x3_1 : Int).toNat).length < 35184372088832 then (some (y291 ++ (l0.take (x3_1 : Int).toNat))) else (none)) else (none)) else (none)))) else (none)) else (none)) = some r := by first | (rw [hji3] at H; exact H) | (simp only [hji3] at H ⊢; exact H)
     have hji3w : (IntKind.i64.wrap (x3_1 - 1)) = ji3 := (i64_w _).trans hji3
     by_cases c4 : 0 ≤ (ji3)
     ·rw [if_pos c4] at H
      have c4b0 : decide (0 ≤ (ji3)) = true := decide_eq_true c4
      clear c4
      by_cases c5 : (ji3) < (l0.length : Int)
      ·rw [if_pos c5] at H
       have c5b0 : decide ((ji3) < (l0.length : Int)) = true := decide_eq_true c5
       clear c5
       by_cases c6 : (rd l0 (ji3)) = 0
       ·rw [if_pos c6] at H
        have c6b0 : ((rd l0 (ji3)) == 0) = true := beq_iff_eq.mpr c6
        have c6b1 : ((rd l0 (ji3)) != 0) = false := bne_eq_false_iff_eq.mpr c6
        clear c6
        have H' := asd H
        clear H
        have p290 : 0 ≤ ((ji3) : Int) := of_decide_eq_true (by first | (with_reducible assumption) | assumption)
        have q290 : (ji3) < (l0.length : Int) := of_decide_eq_true (by first | (with_reducible assumption) | assumption)
        obtain ⟨ad290, e290, hx290_0⟩ := Kd.at_int HR0.out (ji3) p290 q290
        cases e290
        replace hx290_0 := (HB.out.cell (World.block_lt_of_cell? w _ hx290_0)).trans hx290_0
        replace p290 := eq_true p290
        replace q290 := eq_true q290
        go_wp2
        go_roundg k1
        case measure => have := HK1.out; omega
        case rel => exact ⟨(ji3), (by first | rfl | (simp; done) | (simp only [← hji3] <;> (first | rfl | simp)) | (simp [*]; done)), H', ⟨by have := HK1.out; omega⟩, ⟨by repeat (first | (with_reducible first | exact HB.out | apply bA_ | apply bN_ | apply bD_) | exact HB.out)⟩⟩
       ·rw [if_neg c6] at H
        have c6b0 : ((rd l0 (ji3)) == 0) = false := beq_eq_false_iff_ne.mpr c6
        have c6b1 : ((rd l0 (ji3)) != 0) = true := bne_iff_ne.mpr c6
        obtain ⟨y291, hy291⟩ : ∃ y_ : List Int, y_ = (([] : List Int)) := ⟨_, rfl⟩
        replace H : (if 0 ≤ x3_1 then (if x3_1 ≤ (l0.length : Int) then (if y291.length + (l0.take (x3_1 : Int).toNat).length < 35184372088832 then (some (y291 ++ (l0.take (x3_1 : Int).toNat))) else (none)) else (none)) else (none)) = some r := by first | (rw [hy291]; with_reducible exact H) | (have H2_ := (Option.bind_some _ _).symm.trans H; rw [hy291]; with_reducible exact H2_) | (have H2_ := (Option.bind_some _ _).symm.trans H; with_reducible exact H2_) | with_reducible exact H | (rw [hy291]; exact H) | exact H
        have Ny291 := asd hy291
        clear hy291
        by_cases c7 : 0 ≤ x3_1
        ·rw [if_pos c7] at H
         have c7b0 := eq_true c7
         have c7b1 : decide (0 ≤ x3_1) = true := decide_eq_true c7
         clear c7
         by_cases c8 : x3_1 ≤ (l0.length : Int)
         ·rw [if_pos c8] at H
          have c8b0 := eq_true c8
          have c8b1 : decide (x3_1 ≤ (l0.length : Int)) = true := decide_eq_true c8
          clear c8
          by_cases c9 : y291.length + (l0.take (x3_1 : Int).toNat).length < 35184372088832
          ·rw [if_pos c9] at H
           have LMc9 := asd c9
           clear c9
           obtain ⟨y295, hy295⟩ : ∃ y_ : List Int, y_ = (y291 ++ (l0.take (x3_1 : Int).toNat)) := ⟨_, rfl⟩
           replace H : (some y295) = some r := by first | (rw [hy295]; with_reducible exact H) | (have H2_ := (Option.bind_some _ _).symm.trans H; rw [hy295]; with_reducible exact H2_) | (have H2_ := (Option.bind_some _ _).symm.trans H; with_reducible exact H2_) | with_reducible exact H | (rw [hy295]; exact H) | exact H
           have Ny295 := asd hy295
           clear hy295
           obtain rfl := Option.some.inj H
           have p290 : 0 ≤ ((ji3) : Int) := of_decide_eq_true (by first | (with_reducible assumption) | assumption)
           have q290 : (ji3) < (l0.length : Int) := of_decide_eq_true (by first | (with_reducible assumption) | assumption)
           obtain ⟨ad290, e290, hx290_0⟩ := Kd.at_int HR0.out (ji3) p290 q290
           cases e290
           replace hx290_0 := (HB.out.cell (World.block_lt_of_cell? w _ hx290_0)).trans hx290_0
           replace p290 := eq_true p290
           replace q290 := eq_true q290
           go_wp2_with (first | ((with_reducible refine gate_dst (N := 18) rfl ?_); refine Kd.R_lit (Kd.int .u32) _ 59 ?hg (N := 18) ?hd (xs := ([] : List Int)) (inner := []) (ok := fun _ => True) (okp := fun _ => True) ?hr ?hp (fun _ hk => hk) trivial (Below.refl _ _) (Nat.le_refl _) (by simp) ?_; (case hd => rfl); (case hg => rfl); (case hr => first | (go_simp; done) | (go_simp; rfl)); (case hp => exact (Reps.none _ _)); intro v292 w10 ho11 hb hg_ hnew_; clear hg_ hnew_; (first | rw [← Ny291.out] at ho11 | (simp only [Int.reduceToNat] at ho11; rw [← Ny291.out] at ho11)); have n0_ := asd (Kd.R_lower ho11 (below_size (by repeat (first | (with_reducible first | exact HB.out | apply bA_ | apply bN_ | apply bD_) | exact HB.out)))); have n1_ := asd (below_step (by repeat (first | (with_reducible first | exact HB.out | apply bA_ | apply bN_ | apply bD_) | exact HB.out)) hb); clear HB; have HO293 := n0_; have HB := n1_; clear n0_ n1_; clear hb ho11; obtain ⟨i012, hi012, _, hsz12, _⟩ := info_parts info59; obtain ⟨hcut12, hA12, hC12⟩ := print_take_of (P := Try.prog) (Value.int .u32) 0 40 59 .i64 Try.underlying40 hi012 hsz12 (some ad290) c0 l0 x3_1 (of_decide_eq_true (by first | (with_reducible assumption) | assumption)) (of_decide_eq_true (by first | (with_reducible assumption) | assumption)) HC0.out; have HR294 := asd (Kd.C_of_reads (h1 := fun _ => rfl) (hA12 _ (Kd.reads_of_C HR0.out))); have HC294 := asd hC12; clear hA12 hC12 hi012 hsz12) | ((with_reducible refine gate_builtin (b := .append) (xs := #[.tmp 18, .tmp 21]) rfl ?_); at_builtin; refine Kd.R_append_rows (Kd.int .u32) (w0 := w) w.heap.size rfl (.tmp 18) (.tmp 21) 40 59 (.int .u32 0) 4 rfl Try.underlying40 info59 rfl (by decide) (by omega) v292 y291 (l0.take (x3_1 : Int).toNat) _ _ _ (fun _ => True) (fun _ => False) rfl rfl ?aO ?aR (fun _ _ h => h) (fun _ h => h.elim) ?aF ?aB ?aS ?aL ?_; (case aR => refine rr_len (show (l0.take (x3_1 : Int).toNat).length = x3_1.toNat from (by rw [List.length_take]; have h_ : (x3_1 : Int) ≤ (l0.length : Int) := of_decide_eq_true (by first | (with_reducible assumption) | assumption); omega)) ?_; repeat (first | exact (Kd.C_below HR294.out HB.out) | (with_reducible refine Kd.C_alloc ?_ _) | (with_reducible refine Kd.C_drewN ?_ _) | (with_reducible refine Kd.C_drew ?_))); (case aB => exact (by repeat (first | (with_reducible first | exact HB.out | apply bA_ | apply bN_ | apply bD_) | exact HB.out))); (case aF => exact (fun _ _ => trivial)); (case aO => exact (by (with_reducible repeat (first | apply Kd.R_alloc | apply Kd.R_drewN | apply Kd.R_drew)); exact HO293.out)); (case aS => exact (below_size (by repeat (first | (with_reducible first | exact HB.out | apply bA_ | apply bN_ | apply bD_) | exact HB.out)))); (case aL => have := LMc9.out; have hlx_ := (show (l0.take (x3_1 : Int).toNat).length = x3_1.toNat from (by rw [List.length_take]; have h_ : (x3_1 : Int) ≤ (l0.length : Int) := of_decide_eq_true (by first | (with_reducible assumption) | assumption); omega)); omega); intro v296 w13 ho hb hg hat; rw [← Ny295.out] at ho; have n0_ := asd (hb); have n1_ := asd (ho); clear HB; clear HO293; have HB := n0_; have HO297 := n1_; clear n0_ n1_; clear ho hb hg hat))
           go_ret
           exact ⟨_, by first | rfl | (simp [errW_none, errW_some] <;> rfl) | (simp only [← hji3]; first | rfl | (simp [errW_none, errW_some] <;> rfl)) | (simp [*, errW_none, errW_some] <;> rfl), by (with_reducible repeat (first | apply Kd.R_alloc | apply Kd.R_drewN | apply Kd.R_drew)); exact HO297.out, by repeat (first | (with_reducible first | exact HB.out | apply bA_ | apply bN_ | apply bD_) | exact HB.out)⟩
          ·rw [if_neg c9] at H
           exact absurd H (by simp)
         ·rw [if_neg c8] at H
          exact absurd H (by simp)
        ·rw [if_neg c7] at H
         exact absurd H (by simp)
      ·rw [if_neg c5] at H
       exact absurd H (by simp)
     ·rw [if_neg c4] at H
      exact absurd H (by simp)
    ·rw [if_neg c2] at H
     have c2b0 : decide (0 < x3_1) = false := decide_eq_false c2
     clear c2
     obtain ⟨y298, hy298⟩ : ∃ y_ : List Int, y_ = (([] : List Int)) := ⟨_, rfl⟩
     replace H : (if 0 ≤ x3_1 then (if x3_1 ≤ (l0.length : Int) then (if y298.length + (l0.take (x3_1 : Int).toNat).length < 35184372088832 then (some (y298 ++ (l0.take (x3_1 : Int).toNat))) else (none)) else (none)) else (none)) = some r := by first | (rw [hy298]; with_reducible exact H) | (have H2_ := (Option.bind_some _ _).symm.trans H; rw [hy298]; with_reducible exact H2_) | (have H2_ := (Option.bind_some _ _).symm.trans H; with_reducible exact H2_) | with_reducible exact H | (rw [hy298]; exact H) | exact H
     have Ny298 := asd hy298
     clear hy298
     by_cases c14 : 0 ≤ x3_1
     ·rw [if_pos c14] at H
      have c14b0 := eq_true c14
      have c14b1 : decide (0 ≤ x3_1) = true := decide_eq_true c14
      clear c14
      by_cases c15 : x3_1 ≤ (l0.length : Int)
      ·rw [if_pos c15] at H
       have c15b0 := eq_true c15
       have c15b1 : decide (x3_1 ≤ (l0.length : Int)) = true := decide_eq_true c15
       clear c15
       by_cases c16 : y298.length + (l0.take (x3_1 : Int).toNat).length < 35184372088832
       ·rw [if_pos c16] at H
        have LMc16 := asd c16
        clear c16
        obtain ⟨y302, hy302⟩ : ∃ y_ : List Int, y_ = (y298 ++ (l0.take (x3_1 : Int).toNat)) := ⟨_, rfl⟩
        replace H : (some y302) = some r := by first | (rw [hy302]; with_reducible exact H) | (have H2_ := (Option.bind_some _ _).symm.trans H; rw [hy302]; with_reducible exact H2_) | (have H2_ := (Option.bind_some _ _).symm.trans H; with_reducible exact H2_) | with_reducible exact H | (rw [hy302]; exact H) | exact H
        have Ny302 := asd hy302
        clear hy302
        obtain rfl := Option.some.inj H
        go_wp2_with (first | ((with_reducible refine gate_dst (N := 18) rfl ?_); refine Kd.R_lit (Kd.int .u32) _ 59 ?hg (N := 18) ?hd (xs := ([] : List Int)) (inner := []) (ok := fun _ => True) (okp := fun _ => True) ?hr ?hp (fun _ hk => hk) trivial (Below.refl _ _) (Nat.le_refl _) (by simp) ?_; (case hd => rfl); (case hg => rfl); (case hr => first | (go_simp; done) | (go_simp; rfl)); (case hp => exact (Reps.none _ _)); intro v299 w17 ho18 hb hg_ hnew_; clear hg_ hnew_; (first | rw [← Ny298.out] at ho18 | (simp only [Int.reduceToNat] at ho18; rw [← Ny298.out] at ho18)); have n0_ := asd (Kd.R_lower ho18 (below_size (by repeat (first | (with_reducible first | exact HB.out | apply bA_ | apply bN_ | apply bD_) | exact HB.out)))); have n1_ := asd (below_step (by repeat (first | (with_reducible first | exact HB.out | apply bA_ | apply bN_ | apply bD_) | exact HB.out)) hb); clear HB; have HO300 := n0_; have HB := n1_; clear n0_ n1_; clear hb ho18; obtain ⟨i019, hi019, _, hsz19, _⟩ := info_parts info59; obtain ⟨hcut19, hA19, hC19⟩ := print_take_of (P := Try.prog) (Value.int .u32) 0 40 59 .i64 Try.underlying40 hi019 hsz19 A0 c0 l0 x3_1 (of_decide_eq_true (by first | (with_reducible assumption) | assumption)) (of_decide_eq_true (by first | (with_reducible assumption) | assumption)) HC0.out; have HR301 := asd (Kd.C_of_reads (h1 := fun _ => rfl) (hA19 _ (Kd.reads_of_C HR0.out))); have HC301 := asd hC19; clear hA19 hC19 hi019 hsz19) | ((with_reducible refine gate_builtin (b := .append) (xs := #[.tmp 18, .tmp 21]) rfl ?_); at_builtin; refine Kd.R_append_rows (Kd.int .u32) (w0 := w) w.heap.size rfl (.tmp 18) (.tmp 21) 40 59 (.int .u32 0) 4 rfl Try.underlying40 info59 rfl (by decide) (by omega) v299 y298 (l0.take (x3_1 : Int).toNat) _ _ _ (fun _ => True) (fun _ => False) rfl rfl ?aO ?aR (fun _ _ h => h) (fun _ h => h.elim) ?aF ?aB ?aS ?aL ?_; (case aR => refine rr_len (show (l0.take (x3_1 : Int).toNat).length = x3_1.toNat from (by rw [List.length_take]; have h_ : (x3_1 : Int) ≤ (l0.length : Int) := of_decide_eq_true (by first | (with_reducible assumption) | assumption); omega)) ?_; repeat (first | exact (Kd.C_below HR301.out HB.out) | (with_reducible refine Kd.C_alloc ?_ _) | (with_reducible refine Kd.C_drewN ?_ _) | (with_reducible refine Kd.C_drew ?_))); (case aB => exact (by repeat (first | (with_reducible first | exact HB.out | apply bA_ | apply bN_ | apply bD_) | exact HB.out))); (case aF => exact (fun _ _ => trivial)); (case aO => exact (by (with_reducible repeat (first | apply Kd.R_alloc | apply Kd.R_drewN | apply Kd.R_drew)); exact HO300.out)); (case aS => exact (below_size (by repeat (first | (with_reducible first | exact HB.out | apply bA_ | apply bN_ | apply bD_) | exact HB.out)))); (case aL => have := LMc16.out; have hlx_ := (show (l0.take (x3_1 : Int).toNat).length = x3_1.toNat from (by rw [List.length_take]; have h_ : (x3_1 : Int) ≤ (l0.length : Int) := of_decide_eq_true (by first | (with_reducible assumption) | assumption); omega)); omega); intro v303 w20 ho hb hg hat; rw [← Ny302.out] at ho; have n0_ := asd (hb); have n1_ := asd (ho); clear HB; clear HO300; have HB := n0_; have HO304 := n1_; clear n0_ n1_; clear ho hb hg hat))
        go_ret
        exact ⟨_, by first | rfl | (simp [errW_none, errW_some] <;> rfl) | (simp [*, errW_none, errW_some] <;> rfl), by (with_reducible repeat (first | apply Kd.R_alloc | apply Kd.R_drewN | apply Kd.R_drew)); exact HO304.out, by repeat (first | (with_reducible first | exact HB.out | apply bA_ | apply bN_ | apply bD_) | exact HB.out)⟩
       ·rw [if_neg c16] at H
        exact absurd H (by simp)
      ·rw [if_neg c15] at H
       exact absurd H (by simp)
     ·rw [if_neg c14] at H
      exact absurd H (by simp)

/-! ### psephosref01_Of: function 29 -/
def psephosref01_Of.f (k : Nat) (a0 : Int) : Option (List Int) := (psephosref01_trim.f k (([(a0) % 4294967296, (a0 / 4294967296) % 4294967296] : List Int))).bind fun t308 => (some t308)
theorem psephosref01_Of.mono : ∀ a0 k, LeO (psephosref01_Of.f k a0) (psephosref01_Of.f (k + 1) a0) := by
  intro a0 k
  unfold psephosref01_Of.f
  repeat' first
    | (with_reducible exact psephosref01_trim.mono _ _)
    | (with_reducible exact LeO.refl _)
    | (with_reducible exact LeO.none _)
    | (with_reducible refine LeO.ite ?_ ?_)
    | (with_reducible refine LeO.bind ?_ (fun _ => ?_))
    | exact psephosref01_trim.mono _ _
    | exact LeO.none _
    | refine LeO.ite ?_ ?_
    | refine LeO.bind ?_ (fun _ => ?_)
set_option maxHeartbeats 8000000 in
set_option maxRecDepth 100000 in
theorem psephosref01_Of.calls (k : Nat) (a0 : Int) (r : List Int) (w : World) (h : psephosref01_Of.f k a0 = some r) :
   Calls Try.prog 29 #[.int .u64 a0] w fun e w' => ∃ v0_ : Value, e = .returned (v0_) ∧ Kd.R (Kd.int .u32) 59 w' w.heap.size (fun _ => True) v0_ r ∧ Below w.heap.size w w' := by
  have HB := asd (Below.refl w.heap.size w)
  have H : ((psephosref01_trim.f k (([(a0) % 4294967296, (a0 / 4294967296) % 4294967296] : List Int))).bind fun t308 => (some t308)) = some r := h
  clear h
  obtain ⟨y305, hy305⟩ : ∃ y_ : List Int, y_ = (([(a0) % 4294967296, (a0 / 4294967296) % 4294967296] : List Int)) := ⟨_, rfl⟩
  replace H : ((psephosref01_trim.f k y305).bind fun t308 => (some t308)) = some r := by first | (rw [hy305]; with_reducible exact H) | (have H2_ := (Option.bind_some _ _).symm.trans H; rw [hy305]; with_reducible exact H2_) | (have H2_ := (Option.bind_some _ _).symm.trans H; with_reducible exact H2_) | with_reducible exact H | (rw [hy305]; exact H) | exact H
  have Ny305 := asd hy305
  clear hy305
  replace H := Option.bind_eq_some_iff.mp H
  obtain ⟨t308, A20, H⟩ := H
  replace H : (some t308) = some r := H
  have A2 := asd A20
  clear A20
  obtain rfl := Option.some.inj H
  go_enter Try.func29, Try.ntmps29
  go_wp2_with (first | ((with_reducible refine gate_dst (N := 8) rfl ?_); refine Kd.R_lit (Kd.int .u32) _ 59 ?hg (N := 8) ?hd (xs := ([(a0) % 4294967296, (a0 / 4294967296) % 4294967296] : List Int)) (inner := [.int .u32 ((a0) % 4294967296), .int .u32 ((a0 / 4294967296) % 4294967296)]) (ok := fun _ => True) (okp := fun _ => True) ?hr ?hp (fun _ hk => hk) trivial (Below.refl _ _) (Nat.le_refl _) (by simp) ?_; (case hd => rfl); (case hg => rfl); (case hr => first | (go_simp; done) | (go_simp; rfl)); (case hp => exact (Reps.one (show Kd.M (Kd.int .u32) _ _ _ ((a0) % 4294967296) [.int .u32 ((a0) % 4294967296)] from rfl) (Reps.one (show Kd.M (Kd.int .u32) _ _ _ ((a0 / 4294967296) % 4294967296) [.int .u32 ((a0 / 4294967296) % 4294967296)] from rfl) (Reps.none _ _)))); intro v306 w3 ho4 hb hg_ hnew_; clear hg_ hnew_; (first | rw [← Ny305.out] at ho4 | (simp only [Int.reduceToNat] at ho4; rw [← Ny305.out] at ho4)); have n0_ := asd (Kd.R_lower ho4 (below_size (by repeat (first | (with_reducible first | exact HB.out | apply bA_ | apply bN_ | apply bD_) | exact HB.out)))); have n1_ := asd (below_step (by repeat (first | (with_reducible first | exact HB.out | apply bA_ | apply bN_ | apply bD_) | exact HB.out)) hb); clear HB; have HO307 := n0_; have HB := n1_; clear n0_ n1_; clear hb ho4; obtain ⟨Ao5, co5, eo5⟩ := Kd.R_slice HO307.out; subst eo5) | ((with_reducible refine gate_callee (f := 51) rfl ?_); refine goesL_ (some 9) rfl rfl Try.func51 (by kernel_rfl) rfl #[.slice Ao5 y305.length co5] rfl (by (try simp only [List.map_toArray, List.map_cons, List.map_nil]); first | done | rfl | (simp only [List.length_drop, List.length_take]; rfl)) ?_; (with_reducible refine (psephosref01_trim.calls k _ _ y305 t308 _ ?side1 ?side2 A2.out).mono ?_); (case side1 => repeat (first | exact (Kd.R_reads' HO307.out).2.2 | (with_reducible refine Kd.C_alloc ?_ _) | (with_reducible refine Kd.C_drewN ?_ _) | (with_reducible refine Kd.C_drew ?_))); (case side2 => exact (Kd.R_reads' HO307.out).2.1); rintro e w6 ⟨v309, rfl, ho0, hb⟩; refine ⟨_, rfl, ?_⟩; have n0_ := asd (Kd.R_elder' (by (with_reducible repeat (first | apply Kd.R_alloc | apply Kd.R_drewN | apply Kd.R_drew)); exact HO307.out) (Kd.R_base ho0) hb); have n1_ := asd (Kd.R_lower (Kd.R_new' ho0 (Kd.R_lt (by (with_reducible repeat (first | apply Kd.R_alloc | apply Kd.R_drewN | apply Kd.R_drew)); exact HO307.out))) (below_size (by repeat (first | (with_reducible first | exact HB.out | apply bA_ | apply bN_ | apply bD_) | exact HB.out)))); have n2_ := asd (below_step (by repeat (first | (with_reducible first | exact HB.out | apply bA_ | apply bN_ | apply bD_) | exact HB.out)) hb); clear HO307; clear HB; have HO307 := n0_; have HO310 := n1_; have HB := n2_; clear n0_ n1_ n2_; (try clear hb); (try clear hb2); (try clear hk); (try clear hi); (try clear ho0)))
  go_ret
  exact ⟨_, by first | rfl | (simp [errW_none, errW_some] <;> rfl) | (simp [*, errW_none, errW_some] <;> rfl), by (with_reducible repeat (first | apply Kd.R_alloc | apply Kd.R_drewN | apply Kd.R_drew)); exact Kd.R_mono HO310.out (fun _ hk => trivial), by repeat (first | (with_reducible first | exact HB.out | apply bA_ | apply bN_ | apply bD_) | exact HB.out)⟩

/-! ### psephosref01_Formed: function 26 -/
def psephosref01_Formed.f (l0 : List Int) : Option (Bool) := if (l0.length : Int) ≤ 400 then (if (l0.length : Int) = 0 then (some true) else (if 0 ≤ (wrap64 ((l0.length : Int) - 1)) then (if (wrap64 ((l0.length : Int) - 1)) < (l0.length : Int) then (some ((rd l0 (wrap64 ((l0.length : Int) - 1))) != 0)) else (none)) else (none))) else (some false)
set_option maxHeartbeats 8000000 in
set_option maxRecDepth 100000 in
theorem psephosref01_Formed.calls (A0 : Option Addr) (c0 : Nat) (l0 : List Int) (r : Bool) (w : World) (hr0 : Kd.C (Kd.int .u32) w A0 l0.length l0) (hc0 : l0.length ≤ c0) (h : psephosref01_Formed.f l0 = some r) :
   Calls Try.prog 26 #[.slice A0 l0.length c0] w fun e w' => e = .returned (.bool r) ∧ Drawn0 w w' := by
  have HR0 := asd hr0
  have HC0 := asd hc0
  clear hr0 hc0
  have H : (if (l0.length : Int) ≤ 400 then (if (l0.length : Int) = 0 then (some true) else (if 0 ≤ (wrap64 ((l0.length : Int) - 1)) then (if (wrap64 ((l0.length : Int) - 1)) < (l0.length : Int) then (some ((rd l0 (wrap64 ((l0.length : Int) - 1))) != 0)) else (none)) else (none))) else (some false)) = some r := h
  clear h
  by_cases c2 : (l0.length : Int) ≤ 400
  ·rw [if_pos c2] at H
   have c2b0 : decide ((l0.length : Int) ≤ 400) = true := decide_eq_true c2
   have c2b1 : decide (l0.length ≤ 400) = true := decide_eq_true (by omega)
   clear c2
   by_cases c3 : (l0.length : Int) = 0
   ·rw [if_pos c3] at H
    have c3b0 : ((l0.length : Int) == 0) = true := beq_iff_eq.mpr c3
    have c3b1 : ((l0.length : Int) != 0) = false := bne_eq_false_iff_eq.mpr c3
    clear c3
    obtain rfl := Option.some.inj H
    go_enter Try.func26, Try.ntmps26
    go_wp2
    go_ret
    exact ⟨by first | rfl | (simp; done) | (simp [*]; done), by repeat (first | exact Drawn0.refl _ | apply Drawn0.step)⟩
   ·rw [if_neg c3] at H
    have c3b0 : ((l0.length : Int) == 0) = false := beq_eq_false_iff_ne.mpr c3
    have c3b1 : ((l0.length : Int) != 0) = true := bne_iff_ne.mpr c3
    have c3b2 : ¬ (l0 = []) := fun h_ => c3 (by rw [h_]; rfl)
    obtain ⟨ji4, hji4⟩ : ∃ j_ : Int, (wrap64 ((l0.length : Int) - 1)) = j_ := ⟨_, rfl⟩
    replace H : (if 0 ≤ (ji4) then (if (ji4) < (l0.length : Int) then (some ((rd l0 (ji4)) != 0)) else (none)) else (none)) = some r := by first | (rw [hji4] at H; exact H) | (simp only [hji4] at H ⊢; exact H)
    have hji4w : (IntKind.i64.wrap ((l0.length : Int) - 1)) = ji4 := (i64_w _).trans hji4
    by_cases c5 : 0 ≤ (ji4)
    ·rw [if_pos c5] at H
     have c5b0 : decide (0 ≤ (ji4)) = true := decide_eq_true c5
     clear c5
     by_cases c6 : (ji4) < (l0.length : Int)
     ·rw [if_pos c6] at H
      have c6b0 : decide ((ji4) < (l0.length : Int)) = true := decide_eq_true c6
      clear c6
      obtain rfl := Option.some.inj H
      have p311 : 0 ≤ ((ji4) : Int) := of_decide_eq_true (by first | (with_reducible assumption) | assumption)
      have q311 : (ji4) < (l0.length : Int) := of_decide_eq_true (by first | (with_reducible assumption) | assumption)
      obtain ⟨ad311, e311, hx311_0⟩ := Kd.at_int HR0.out (ji4) p311 q311
      cases e311
      replace p311 := eq_true p311
      replace q311 := eq_true q311
      go_enter Try.func26, Try.ntmps26
      go_wp2
      go_ret
      exact ⟨by first | rfl | (simp; done) | (simp only [← hji4] <;> (first | rfl | simp)) | (simp [*]; done), by repeat (first | exact Drawn0.refl _ | apply Drawn0.step)⟩
     ·rw [if_neg c6] at H
      exact absurd H (by simp)
    ·rw [if_neg c5] at H
     exact absurd H (by simp)
  ·rw [if_neg c2] at H
   have c2b0 : decide ((l0.length : Int) ≤ 400) = false := decide_eq_false c2
   have c2b1 : decide (l0.length ≤ 400) = false := decide_eq_false (by omega)
   clear c2
   obtain rfl := Option.some.inj H
   go_enter Try.func26, Try.ntmps26
   go_wp2
   go_ret
   exact ⟨by first | rfl | (simp; done) | (simp [*]; done), by repeat (first | exact Drawn0.refl _ | apply Drawn0.step)⟩

/-! ### psephosref01_mul: function 55 -/
mutual
def psephosref01_mul.l0 : Nat → List Int → List Int → List Int → Int → Int → Option (List Int)
  | 0, _, _, _, _, _ => none
  | k + 1, x0, x1, x5, x17, x18 => if x18 < x17 then (psephosref01_mul.l1 k x0 x1 x5 x18 0 x17 x18 (x1.length : Int) 0) else ((psephosref01_trim.f k x5).bind fun t315 => (some t315))
def psephosref01_mul.l1 : Nat → List Int → List Int → List Int → Int → Int → Int → Int → Int → Int → Option (List Int)
  | 0, _, _, _, _, _, _, _, _, _ => none
  | k + 1, x0, x1, x5, x6, x7, x17, x18, x22, x23 => if x23 < x22 then (if 0 ≤ (wrap64 (x6 + x23)) then (if (wrap64 (x6 + x23)) < (x5.length : Int) then (if 0 ≤ x6 then (if x6 < (x0.length : Int) then (if 0 ≤ x23 then (if x23 < (x1.length : Int) then (psephosref01_mul.l1 k x0 x1 (x5.set ((wrap64 (x6 + x23)) : Int).toNat ((IntKind.u64.wrap ((IntKind.u64.wrap (x7 + (IntKind.u64.wrap (rd x5 (wrap64 (x6 + x23)))))) + (IntKind.u64.wrap ((IntKind.u64.wrap (rd x0 x6)) * (IntKind.u64.wrap (rd x1 x23)))))) % 4294967296)) x6 ((IntKind.u64.wrap ((IntKind.u64.wrap (x7 + (IntKind.u64.wrap (rd x5 (wrap64 (x6 + x23)))))) + (IntKind.u64.wrap ((IntKind.u64.wrap (rd x0 x6)) * (IntKind.u64.wrap (rd x1 x23)))))) / 4294967296) x17 x18 x22 (wrap64 (x23 + 1))) else (none)) else (none)) else (none)) else (none)) else (none)) else (none)) else (if 0 ≤ (wrap64 (x6 + (x1.length : Int))) then (if (wrap64 (x6 + (x1.length : Int))) < (x5.length : Int) then (psephosref01_mul.l0 k x0 x1 (x5.set ((wrap64 (x6 + (x1.length : Int))) : Int).toNat ((x7) % 4294967296)) x17 (wrap64 (x18 + 1))) else (none)) else (none))
end
def psephosref01_mul.f (k : Nat) (l0 : List Int) (l1 : List Int) : Option (List Int) := if 0 ≤ (wrap64 ((wrap64 ((l0.length : Int) + (l1.length : Int))) + 1)) then (if (wrap64 ((wrap64 ((l0.length : Int) + (l1.length : Int))) + 1) : Int).toNat ≤ 70368744177664 then (psephosref01_mul.l0 k l0 l1 (List.replicate (wrap64 ((wrap64 ((l0.length : Int) + (l1.length : Int))) + 1) : Int).toNat 0) (l0.length : Int) 0) else (none)) else (none)
theorem psephosref01_mul.mono_l : ∀ k, (∀ y0 y1 y2 y3 y4, LeO (psephosref01_mul.l0 k y0 y1 y2 y3 y4) (psephosref01_mul.l0 (k + 1) y0 y1 y2 y3 y4)) ∧ (∀ y0 y1 y2 y3 y4 y5 y6 y7 y8, LeO (psephosref01_mul.l1 k y0 y1 y2 y3 y4 y5 y6 y7 y8) (psephosref01_mul.l1 (k + 1) y0 y1 y2 y3 y4 y5 y6 y7 y8))
  | 0 => ⟨fun _ _ _ _ _ r h => by simp [psephosref01_mul.l0] at h, fun _ _ _ _ _ _ _ _ _ r h => by simp [psephosref01_mul.l1] at h⟩
  | k + 1 => by
   obtain ⟨ih0, ih1⟩ := psephosref01_mul.mono_l k
   refine ⟨?_, ?_⟩
   ·intro y0 y1 y2 y3 y4
    unfold psephosref01_mul.l0
    repeat' first
    | (with_reducible exact ih0 _ _ _ _ _)
    | (with_reducible exact ih1 _ _ _ _ _ _ _ _ _)
    | (with_reducible exact psephosref01_trim.mono _ _)
    | (with_reducible exact LeO.refl _)
    | (with_reducible exact LeO.none _)
    | (with_reducible refine LeO.ite ?_ ?_)
    | (with_reducible refine LeO.bind ?_ (fun _ => ?_))
    | exact ih0 _ _ _ _ _
    | exact ih1 _ _ _ _ _ _ _ _ _
    | exact psephosref01_trim.mono _ _
    | exact LeO.none _
    | refine LeO.ite ?_ ?_
    | refine LeO.bind ?_ (fun _ => ?_)
   ·intro y0 y1 y2 y3 y4 y5 y6 y7 y8
    unfold psephosref01_mul.l1
    repeat' first
    | (with_reducible exact ih0 _ _ _ _ _)
    | (with_reducible exact ih1 _ _ _ _ _ _ _ _ _)
    | (with_reducible exact psephosref01_trim.mono _ _)
    | (with_reducible exact LeO.refl _)
    | (with_reducible exact LeO.none _)
    | (with_reducible refine LeO.ite ?_ ?_)
    | (with_reducible refine LeO.bind ?_ (fun _ => ?_))
    | exact ih0 _ _ _ _ _
    | exact ih1 _ _ _ _ _ _ _ _ _
    | exact psephosref01_trim.mono _ _
    | exact LeO.none _
    | refine LeO.ite ?_ ?_
    | refine LeO.bind ?_ (fun _ => ?_)
theorem psephosref01_mul.mono : ∀ a0 a1 k, LeO (psephosref01_mul.f k a0 a1) (psephosref01_mul.f (k + 1) a0 a1) := by
  intro a0 a1 k
  obtain ⟨ih0, ih1⟩ := psephosref01_mul.mono_l k
  unfold psephosref01_mul.f
  repeat' first
    | (with_reducible exact ih0 _ _ _ _ _)
    | (with_reducible exact ih1 _ _ _ _ _ _ _ _ _)
    | (with_reducible exact psephosref01_trim.mono _ _)
    | (with_reducible exact LeO.refl _)
    | (with_reducible exact LeO.none _)
    | (with_reducible refine LeO.ite ?_ ?_)
    | (with_reducible refine LeO.bind ?_ (fun _ => ?_))
    | exact ih0 _ _ _ _ _
    | exact ih1 _ _ _ _ _ _ _ _ _
    | exact psephosref01_trim.mono _ _
    | exact LeO.none _
    | refine LeO.ite ?_ ?_
    | refine LeO.bind ?_ (fun _ => ?_)
set_option maxHeartbeats 8000000 in
set_option maxRecDepth 100000 in
theorem psephosref01_mul.calls (k : Nat) (A0 : Option Addr) (c0 : Nat) (l0 : List Int) (A1 : Option Addr) (c1 : Nat) (l1 : List Int) (r : List Int) (w : World) (hr0 : Kd.C (Kd.int .u32) w A0 l0.length l0) (hc0 : l0.length ≤ c0) (hr1 : Kd.C (Kd.int .u32) w A1 l1.length l1) (hc1 : l1.length ≤ c1) (h : psephosref01_mul.f k l0 l1 = some r) :
   Calls Try.prog 55 #[.slice A0 l0.length c0, .slice A1 l1.length c1] w fun e w' => ∃ v0_ : Value, e = .returned (v0_) ∧ Kd.R (Kd.int .u32) 59 w' w.heap.size (fun _ => True) v0_ r ∧ Below w.heap.size w w' := by
  have HR0 := asd hr0
  have HC0 := asd hc0
  clear hr0 hc0
  have HR1 := asd hr1
  have HC1 := asd hc1
  clear hr1 hc1
  have HB := asd (Below.refl w.heap.size w)
  have H : (if 0 ≤ (wrap64 ((wrap64 ((l0.length : Int) + (l1.length : Int))) + 1)) then (if (wrap64 ((wrap64 ((l0.length : Int) + (l1.length : Int))) + 1) : Int).toNat ≤ 70368744177664 then (psephosref01_mul.l0 k l0 l1 (List.replicate (wrap64 ((wrap64 ((l0.length : Int) + (l1.length : Int))) + 1) : Int).toNat 0) (l0.length : Int) 0) else (none)) else (none)) = some r := h
  clear h
  obtain ⟨ji3, hji3⟩ : ∃ j_ : Int, (wrap64 ((wrap64 ((l0.length : Int) + (l1.length : Int))) + 1)) = j_ := ⟨_, rfl⟩
  replace H : (if 0 ≤ (ji3) then (if (ji3 : Int).toNat ≤ 70368744177664 then (psephosref01_mul.l0 k l0 l1 (List.replicate (ji3 : Int).toNat 0) (l0.length : Int) 0) else (none)) else (none)) = some r := by first | (rw [hji3] at H; exact H) | (simp only [hji3] at H ⊢; exact H)
  have hji3w : (IntKind.i64.wrap ((wrap64 ((l0.length : Int) + (l1.length : Int))) + 1)) = ji3 := (i64_w _).trans hji3
  by_cases c4 : 0 ≤ (ji3)
  ·rw [if_pos c4] at H
   have c4b0 := eq_true c4
   have c4b1 : decide (0 ≤ (ji3)) = true := decide_eq_true c4
   clear c4
   by_cases c5 : (ji3 : Int).toNat ≤ 70368744177664
   ·rw [if_pos c5] at H
    have c5b0 := eq_true c5
    have c5b1 : decide ((ji3 : Int).toNat ≤ 70368744177664) = true := decide_eq_true c5
    clear c5
    obtain ⟨y312, hy312⟩ : ∃ y_ : List Int, y_ = (List.replicate (ji3 : Int).toNat 0) := ⟨_, rfl⟩
    replace H : (psephosref01_mul.l0 k l0 l1 y312 (l0.length : Int) 0) = some r := by first | (rw [hy312]; with_reducible exact H) | (have H2_ := (Option.bind_some _ _).symm.trans H; rw [hy312]; with_reducible exact H2_) | (have H2_ := (Option.bind_some _ _).symm.trans H; with_reducible exact H2_) | with_reducible exact H | (rw [hy312]; exact H) | exact H
    have Ny312 := asd hy312
    clear hy312
    have H' := asd H
    clear H
    go_enter Try.func55, Try.ntmps55
    go_wp2_with (first | ((with_reducible refine gate_dst (N := 15) rfl ?_); refine Kd.R_make (Kd.int .u32) _ 59 rfl (N := 15) rfl 40 _ _ rfl ji3 rfl rfl Try.underlying40 (.int .u32 0) 4 info59 rfl (by decide) (by omega) 0 (ok := fun _ => True) (okp := fun _ => True) rfl (fun _ hk => hk) trivial (of_decide_eq_true (by first | (with_reducible assumption) | assumption)) (Nat.le_trans (Nat.mul_le_mul_right _ (of_decide_eq_true (by first | (with_reducible assumption) | assumption) : ji3.toNat ≤ 70368744177664)) (by omega)) (Below.refl _ _) (Nat.le_refl _) ?_; intro v313 w6 ho7 hb hg_ hnew_; clear hg_ hnew_; (first | rw [← Ny312.out] at ho7 | (simp only [Int.reduceToNat] at ho7; rw [← Ny312.out] at ho7)); have n0_ := asd (Kd.R_lower ho7 (below_size (by repeat (first | (with_reducible first | exact HB.out | apply bA_ | apply bN_ | apply bD_) | exact HB.out)))); have n1_ := asd (below_step (by repeat (first | (with_reducible first | exact HB.out | apply bA_ | apply bN_ | apply bD_) | exact HB.out)) hb); clear HB; have HO314 := n0_; have HB := n1_; clear n0_ n1_; clear hb ho7))
    repeat (go_quiet (first | ((with_reducible refine gate_dst (N := 15) rfl ?_); refine Kd.R_make (Kd.int .u32) _ 59 rfl (N := 15) rfl 40 _ _ rfl ji3 rfl rfl Try.underlying40 (.int .u32 0) 4 info59 rfl (by decide) (by omega) 0 (ok := fun _ => True) (okp := fun _ => True) rfl (fun _ hk => hk) trivial (of_decide_eq_true (by first | (with_reducible assumption) | assumption)) (Nat.le_trans (Nat.mul_le_mul_right _ (of_decide_eq_true (by first | (with_reducible assumption) | assumption) : ji3.toNat ≤ 70368744177664)) (by omega)) (Below.refl _ _) (Nat.le_refl _) ?_; intro v313 w6 ho7 hb hg_ hnew_; clear hg_ hnew_; (first | rw [← Ny312.out] at ho7 | (simp only [Int.reduceToNat] at ho7; rw [← Ny312.out] at ho7)); have n0_ := asd (Kd.R_lower ho7 (below_size (by repeat (first | (with_reducible first | exact HB.out | apply bA_ | apply bN_ | apply bD_) | exact HB.out)))); have n1_ := asd (below_step (by repeat (first | (with_reducible first | exact HB.out | apply bA_ | apply bN_ | apply bD_) | exact HB.out)) hb); clear HB; have HO314 := n0_; have HB := n1_; clear n0_ n1_; clear hb ho7)); try go_wp2_with (first | ((with_reducible refine gate_dst (N := 15) rfl ?_); refine Kd.R_make (Kd.int .u32) _ 59 rfl (N := 15) rfl 40 _ _ rfl ji3 rfl rfl Try.underlying40 (.int .u32 0) 4 info59 rfl (by decide) (by omega) 0 (ok := fun _ => True) (okp := fun _ => True) rfl (fun _ hk => hk) trivial (of_decide_eq_true (by first | (with_reducible assumption) | assumption)) (Nat.le_trans (Nat.mul_le_mul_right _ (of_decide_eq_true (by first | (with_reducible assumption) | assumption) : ji3.toNat ≤ 70368744177664)) (by omega)) (Below.refl _ _) (Nat.le_refl _) ?_; intro v313 w6 ho7 hb hg_ hnew_; clear hg_ hnew_; (first | rw [← Ny312.out] at ho7 | (simp only [Int.reduceToNat] at ho7; rw [← Ny312.out] at ho7)); have n0_ := asd (Kd.R_lower ho7 (below_size (by repeat (first | (with_reducible first | exact HB.out | apply bA_ | apply bN_ | apply bD_) | exact HB.out)))); have n1_ := asd (below_step (by repeat (first | (with_reducible first | exact HB.out | apply bA_ | apply bN_ | apply bD_) | exact HB.out)) hb); clear HB; have HO314 := n0_; have HB := n1_; clear n0_ n1_; clear hb ho7)))
    go_loopg [18] k (fun kq v18 w' => ∃ (x5_1 : List Int) (x18_1 : Int), v18 = .int .i64 x18_1 ∧ Aside0 (psephosref01_mul.l0 kq l0 l1 x5_1 (l0.length : Int) x18_1 = some r) ∧ Aside0 (kq ≤ k) ∧ Aside0 (Kd.R (Kd.int .u32) 59 w' w.heap.size (fun _ => True) v313 x5_1) ∧ Aside0 (Below w.heap.size w w'))
    case atStart => exact ⟨(y312), (0), (by first | rfl | (simp; done) | (simp [*]; done)), H', ⟨Nat.le_refl _⟩, ⟨by (with_reducible repeat (first | apply Kd.R_alloc | apply Kd.R_drewN | apply Kd.R_drew)); exact HO314.out⟩, ⟨by repeat (first | (with_reducible first | exact HB.out | apply bA_ | apply bN_ | apply bD_) | exact HB.out)⟩⟩
    case round =>
     clear H'
     try clear c1
     try clear p2
     try clear c4
     try clear c4b0
     try clear c4b1
     try clear c5
     try clear c5b0
     try clear c5b1
     try clear p6
     obtain ⟨x5_1, x18_1, rfl, HA, HK1, HO_5, HB⟩ := hrel
     cases gk with
     | zero => exact absurd HA.out (by simp [psephosref01_mul.l0])
     | succ k1 =>
      have H := HA.out
      clear HA
      simp only [psephosref01_mul.l0] at H
      by_cases c8 : x18_1 < (l0.length : Int)
      ·rw [if_pos c8] at H
       have c8b0 : decide (x18_1 < (l0.length : Int)) = true := decide_eq_true c8
       clear c8
       have H' := asd H
       clear H
       go_wp2
       repeat (go_quiet (fail); try go_wp2)
       go_loopg [7, 23] k1 (fun kq v7 v23 w' => ∃ (x5_2 : List Int) (x7_2 : Int) (x23_2 : Int), v7 = .int .u64 x7_2 ∧ v23 = .int .i64 x23_2 ∧ Aside0 (psephosref01_mul.l1 kq l0 l1 x5_2 x18_1 x7_2 (l0.length : Int) x18_1 (l1.length : Int) x23_2 = some r) ∧ Aside0 (kq ≤ k1) ∧ Aside0 (Kd.R (Kd.int .u32) 59 w' w.heap.size (fun _ => True) v313 x5_2) ∧ Aside0 (Below w.heap.size w w'))
       case atStart => exact ⟨(x5_1), (0), (0), (by first | rfl | (simp; done) | (simp [*]; done)), (by first | rfl | (simp; done) | (simp [*]; done)), H', ⟨Nat.le_refl _⟩, ⟨by (with_reducible repeat (first | apply Kd.R_alloc | apply Kd.R_drewN | apply Kd.R_drew)); exact HO_5.out⟩, ⟨by repeat (first | (with_reducible first | exact HB.out | apply bA_ | apply bN_ | apply bD_) | exact HB.out)⟩⟩
       case round =>
        clear H'
        try clear c1
        try clear p2
        try clear c4
        try clear c4b0
        try clear c4b1
        try clear c5
        try clear c5b0
        try clear c5b1
        try clear p6
        try clear c8
        try clear c8b0
        try clear p2
        try clear p6
        obtain ⟨x5_2, x7_2, x23_2, rfl, rfl, HA, HK2, HO_5, HB⟩ := hrel
        cases gk with
        | zero => exact absurd HA.out (by simp [psephosref01_mul.l1])
        | succ k2 =>
         have H := HA.out
         clear HA
         simp only [psephosref01_mul.l1] at H
         by_cases c9 : x23_2 < (l1.length : Int)
         ·rw [if_pos c9] at H
          have c9b0 : decide (x23_2 < (l1.length : Int)) = true := decide_eq_true c9
          clear c9
          obtain ⟨ji10, hji10⟩ : ∃ j_ : Int, (wrap64 (x18_1 + x23_2)) = j_ := ⟨_, rfl⟩
          replace H : (if 0 ≤ (ji10) then (if (ji10) < (x5_2.length : Int) then (if 0 ≤ x18_1 then (if x18_1 < (l0.length : Int) then (if 0 ≤ x23_2 then (if x23_2 < (l1.length : Int) then (psephosref01_mul.l1 k2 l0 l1 (x5_2.set ((ji10) : Int).toNat ((IntKind.u64.wrap ((IntKind.u64.wrap (x7_2 + (IntKind.u64.wrap (rd x5_2 (ji10))))) + (IntKind.u64.wrap ((IntKind.u64.wrap (rd l0 x18_1)) * (IntKind.u64.wrap (rd l1 x23_2)))))) % 4294967296)) x18_1 ((IntKind.u64.wrap ((IntKind.u64.wrap (x7_2 + (IntKind.u64.wrap (rd x5_2 (ji10))))) + (IntKind.u64.wrap ((IntKind.u64.wrap (rd l0 x18_1)) * (IntKind.u64.wrap (rd l1 x23_2)))))) / 4294967296) (l0.length : Int) x18_1 (l1.length : Int) (wrap64 (x23_2 + 1))) else (none)) else (none)) else (none)) else (none)) else (none)) else (none)) = some r := by first | (rw [hji10] at H; exact H) | (simp only [hji10] at H ⊢; exact H)
          have hji10w : (IntKind.i64.wrap (x18_1 + x23_2)) = ji10 := (i64_w _).trans hji10
          by_cases c11 : 0 ≤ (ji10)
          ·rw [if_pos c11] at H
           have c11b0 : decide (0 ≤ (ji10)) = true := decide_eq_true c11
           clear c11
           by_cases c12 : (ji10) < (x5_2.length : Int)
           ·rw [if_pos c12] at H
            have c12b0 : decide ((ji10) < (x5_2.length : Int)) = true := decide_eq_true c12
            clear c12
            by_cases c13 : 0 ≤ x18_1
            ·rw [if_pos c13] at H
             have c13b0 : decide (0 ≤ x18_1) = true := decide_eq_true c13
             clear c13
             by_cases c14 : x18_1 < (l0.length : Int)
             ·rw [if_pos c14] at H
              have c14b0 : decide (x18_1 < (l0.length : Int)) = true := decide_eq_true c14
              clear c14
              by_cases c15 : 0 ≤ x23_2
              ·rw [if_pos c15] at H
               have c15b0 : decide (0 ≤ x23_2) = true := decide_eq_true c15
               clear c15
               by_cases c16 : x23_2 < (l1.length : Int)
               ·rw [if_pos c16] at H
                have c16b0 : decide (x23_2 < (l1.length : Int)) = true := decide_eq_true c16
                clear c16
                obtain ⟨y321, hy321⟩ : ∃ y_ : List Int, y_ = (x5_2.set ((ji10) : Int).toNat ((IntKind.u64.wrap ((IntKind.u64.wrap (x7_2 + (IntKind.u64.wrap (rd x5_2 (ji10))))) + (IntKind.u64.wrap ((IntKind.u64.wrap (rd l0 x18_1)) * (IntKind.u64.wrap (rd l1 x23_2)))))) % 4294967296)) := ⟨_, rfl⟩
                replace H : (psephosref01_mul.l1 k2 l0 l1 y321 x18_1 ((IntKind.u64.wrap ((IntKind.u64.wrap (x7_2 + (IntKind.u64.wrap (rd x5_2 (ji10))))) + (IntKind.u64.wrap ((IntKind.u64.wrap (rd l0 x18_1)) * (IntKind.u64.wrap (rd l1 x23_2)))))) / 4294967296) (l0.length : Int) x18_1 (l1.length : Int) (wrap64 (x23_2 + 1))) = some r := by first | (rw [hy321]; with_reducible exact H) | (have H2_ := (Option.bind_some _ _).symm.trans H; rw [hy321]; with_reducible exact H2_) | (have H2_ := (Option.bind_some _ _).symm.trans H; with_reducible exact H2_) | with_reducible exact H | (rw [hy321]; exact H) | exact H
                have Ny321 := asd hy321
                clear hy321
                have H' := asd H
                clear H
                obtain ⟨Ao18, co18, eo18⟩ := Kd.R_slice HO_5.out
                subst eo18
                have p318 : 0 ≤ ((ji10) : Int) := of_decide_eq_true (by first | (with_reducible assumption) | assumption)
                have q318 : (ji10) < (x5_2.length : Int) := of_decide_eq_true (by first | (with_reducible assumption) | assumption)
                obtain ⟨ad318, e318, hx318_0⟩ := Kd.at_int (Kd.R_reads' HO_5.out).2.2 (ji10) p318 q318
                cases e318
                replace p318 := eq_true p318
                replace q318 := eq_true q318
                have p319 : 0 ≤ (x18_1 : Int) := of_decide_eq_true (by first | (with_reducible assumption) | assumption)
                have q319 : x18_1 < (l0.length : Int) := of_decide_eq_true (by first | (with_reducible assumption) | assumption)
                obtain ⟨ad319, e319, hx319_0⟩ := Kd.at_int HR0.out x18_1 p319 q319
                cases e319
                replace hx319_0 := (HB.out.cell (World.block_lt_of_cell? w _ hx319_0)).trans hx319_0
                replace p319 := eq_true p319
                replace q319 := eq_true q319
                have p320 : 0 ≤ (x23_2 : Int) := of_decide_eq_true (by first | (with_reducible assumption) | assumption)
                have q320 : x23_2 < (l1.length : Int) := of_decide_eq_true (by first | (with_reducible assumption) | assumption)
                obtain ⟨ad320, e320, hx320_0⟩ := Kd.at_int HR1.out x23_2 p320 q320
                cases e320
                replace hx320_0 := (HB.out.cell (World.block_lt_of_cell? w _ hx320_0)).trans hx320_0
                replace p320 := eq_true p320
                replace q320 := eq_true q320
                have p17 : 0 ≤ ((ji10) : Int) := of_decide_eq_true (by first | (with_reducible assumption) | assumption)
                have q17 : ((ji10) : Int) < ((x5_2.length : Int) : Int) := of_decide_eq_true (by first | (with_reducible assumption) | assumption)
                obtain ⟨go17, co17, eo17, gb17, gl17, cl17, HG17⟩ := Kd.R_form HO_5.out (by omega)
                (first | cases eo17 | (injection eo17 with ea_ en_ ec_; (first | subst ea_ | (injection ea_ with ea_; subst ea_)); subst ec_; clear en_))
                have GB17 := asd gb17
                have GG17 := asd HG17
                clear gb17 gl17 HG17
                (first | simp only [add_plain] at hx318_0 | skip)
                obtain ⟨hx17_0, hf17_0⟩ := Kd.R_celln 0 HO_5.out ((ji10) : Int) p17 q17
                replace p17 := eq_true p17
                replace q17 := eq_true q17
                have HP19 := Kd.R_putg HO_5.out ((ji10) : Int) ((IntKind.u64.wrap ((IntKind.u64.wrap (x7_2 + (IntKind.u64.wrap (rd x5_2 (ji10))))) + (IntKind.u64.wrap ((IntKind.u64.wrap (rd l0 x18_1)) * (IntKind.u64.wrap (rd l1 x23_2)))))) % 4294967296)
                go_wp2_with (first | ((with_reducible refine gate_store (t := 59) (p := 53) rfl ?_); (try (rw [drewN_self wr]; generalize hq_ : World.drewN wr _ = wr; have n0_ := asd (Kd.R_at hq_ HO_5.out); have n1_ := asd (below_at hq_ HB.out); clear hq_ HO_5 HB; have HO_5 := n0_; have HB := n1_; clear n0_ n1_; (try (have HP19 := Kd.R_putg HO_5.out ((ji10) : Int) ((IntKind.u64.wrap ((IntKind.u64.wrap (x7_2 + (IntKind.u64.wrap (rd x5_2 (ji10))))) + (IntKind.u64.wrap ((IntKind.u64.wrap (rd l0 x18_1)) * (IntKind.u64.wrap (rd l1 x23_2)))))) % 4294967296))); (try (obtain ⟨hx17_0, hf17_0⟩ := Kd.R_celln 0 HO_5.out ((ji10) : Int) (of_eq_true p17) (of_eq_true q17); (try simp only [Int.toNat_natCast] at hx17_0 hf17_0))))); refine store_event (t := 59) (p := 53) (v := ?vo_w20) (w1 := (wr.setCell ⟨go17, ((ji10) : Int).toNat, none⟩ (.int .u32 ((IntKind.u64.wrap ((IntKind.u64.wrap (x7_2 + (IntKind.u64.wrap (rd x5_2 (ji10))))) + (IntKind.u64.wrap ((IntKind.u64.wrap (rd l0 x18_1)) * (IntKind.u64.wrap (rd l1 x23_2)))))) % 4294967296)))) ?hg ?ho ?hn ?hr ?_; (case ho => rfl); (case hg => rfl); (case hn => rfl); (case hr => first | (go_simp; done) | (go_simp; rfl)); intro w20 hw; have hg : wr.grownBy w20 (some go17) := (by rw [hw]; exact HP19.2); have hp_ : Kd.R (Kd.int .u32) 59 w20 w.heap.size (fun _ => True) (.slice (some ⟨go17, 0, none⟩) x5_2.length co18) y321 := (by rw [hw, Ny321.out]; exact HP19.1); clear HP19; have n0_ := asd (hp_); have n1_ := asd ((by rw [hw]; exact below_set (HB.out) GB17.out : Below w.heap.size w w20)); clear HO_5; clear HB; have HO_5 := n0_; have HB := n1_; clear n0_ n1_; clear hg hw hp_))
                repeat (go_quiet (first | ((with_reducible refine gate_store (t := 59) (p := 53) rfl ?_); (try (rw [drewN_self wr]; generalize hq_ : World.drewN wr _ = wr; have n0_ := asd (Kd.R_at hq_ HO_5.out); have n1_ := asd (below_at hq_ HB.out); clear hq_ HO_5 HB; have HO_5 := n0_; have HB := n1_; clear n0_ n1_; (try (have HP19 := Kd.R_putg HO_5.out ((ji10) : Int) ((IntKind.u64.wrap ((IntKind.u64.wrap (x7_2 + (IntKind.u64.wrap (rd x5_2 (ji10))))) + (IntKind.u64.wrap ((IntKind.u64.wrap (rd l0 x18_1)) * (IntKind.u64.wrap (rd l1 x23_2)))))) % 4294967296))); (try (obtain ⟨hx17_0, hf17_0⟩ := Kd.R_celln 0 HO_5.out ((ji10) : Int) (of_eq_true p17) (of_eq_true q17); (try simp only [Int.toNat_natCast] at hx17_0 hf17_0))))); refine store_event (t := 59) (p := 53) (v := ?vo_w20) (w1 := (wr.setCell ⟨go17, ((ji10) : Int).toNat, none⟩ (.int .u32 ((IntKind.u64.wrap ((IntKind.u64.wrap (x7_2 + (IntKind.u64.wrap (rd x5_2 (ji10))))) + (IntKind.u64.wrap ((IntKind.u64.wrap (rd l0 x18_1)) * (IntKind.u64.wrap (rd l1 x23_2)))))) % 4294967296)))) ?hg ?ho ?hn ?hr ?_; (case ho => rfl); (case hg => rfl); (case hn => rfl); (case hr => first | (go_simp; done) | (go_simp; rfl)); intro w20 hw; have hg : wr.grownBy w20 (some go17) := (by rw [hw]; exact HP19.2); have hp_ : Kd.R (Kd.int .u32) 59 w20 w.heap.size (fun _ => True) (.slice (some ⟨go17, 0, none⟩) x5_2.length co18) y321 := (by rw [hw, Ny321.out]; exact HP19.1); clear HP19; have n0_ := asd (hp_); have n1_ := asd ((by rw [hw]; exact below_set (HB.out) GB17.out : Below w.heap.size w w20)); clear HO_5; clear HB; have HO_5 := n0_; have HB := n1_; clear n0_ n1_; clear hg hw hp_)); try go_wp2_with (first | ((with_reducible refine gate_store (t := 59) (p := 53) rfl ?_); (try (rw [drewN_self wr]; generalize hq_ : World.drewN wr _ = wr; have n0_ := asd (Kd.R_at hq_ HO_5.out); have n1_ := asd (below_at hq_ HB.out); clear hq_ HO_5 HB; have HO_5 := n0_; have HB := n1_; clear n0_ n1_; (try (have HP19 := Kd.R_putg HO_5.out ((ji10) : Int) ((IntKind.u64.wrap ((IntKind.u64.wrap (x7_2 + (IntKind.u64.wrap (rd x5_2 (ji10))))) + (IntKind.u64.wrap ((IntKind.u64.wrap (rd l0 x18_1)) * (IntKind.u64.wrap (rd l1 x23_2)))))) % 4294967296))); (try (obtain ⟨hx17_0, hf17_0⟩ := Kd.R_celln 0 HO_5.out ((ji10) : Int) (of_eq_true p17) (of_eq_true q17); (try simp only [Int.toNat_natCast] at hx17_0 hf17_0))))); refine store_event (t := 59) (p := 53) (v := ?vo_w20) (w1 := (wr.setCell ⟨go17, ((ji10) : Int).toNat, none⟩ (.int .u32 ((IntKind.u64.wrap ((IntKind.u64.wrap (x7_2 + (IntKind.u64.wrap (rd x5_2 (ji10))))) + (IntKind.u64.wrap ((IntKind.u64.wrap (rd l0 x18_1)) * (IntKind.u64.wrap (rd l1 x23_2)))))) % 4294967296)))) ?hg ?ho ?hn ?hr ?_; (case ho => rfl); (case hg => rfl); (case hn => rfl); (case hr => first | (go_simp; done) | (go_simp; rfl)); intro w20 hw; have hg : wr.grownBy w20 (some go17) := (by rw [hw]; exact HP19.2); have hp_ : Kd.R (Kd.int .u32) 59 w20 w.heap.size (fun _ => True) (.slice (some ⟨go17, 0, none⟩) x5_2.length co18) y321 := (by rw [hw, Ny321.out]; exact HP19.1); clear HP19; have n0_ := asd (hp_); have n1_ := asd ((by rw [hw]; exact below_set (HB.out) GB17.out : Below w.heap.size w w20)); clear HO_5; clear HB; have HO_5 := n0_; have HB := n1_; clear n0_ n1_; clear hg hw hp_)))
                go_roundg k2
                case measure => have := HK1.out; have := HK2.out; omega
                case rel => exact ⟨(y321), ((IntKind.u64.wrap ((IntKind.u64.wrap (x7_2 + (IntKind.u64.wrap (rd x5_2 (ji10))))) + (IntKind.u64.wrap ((IntKind.u64.wrap (rd l0 x18_1)) * (IntKind.u64.wrap (rd l1 x23_2)))))) / 4294967296), (wrap64 (x23_2 + 1)), (by first | rfl | (simp; done) | (simp only [← hji10] <;> (first | rfl | simp)) | (simp [*]; done)), (by first | rfl | (simp; done) | (simp [*]; done)), H', ⟨by have := HK1.out; have := HK2.out; omega⟩, ⟨by (with_reducible repeat (first | apply Kd.R_alloc | apply Kd.R_drewN | apply Kd.R_drew)); exact HO_5.out⟩, ⟨by repeat (first | (with_reducible first | exact HB.out | apply bA_ | apply bN_ | apply bD_) | exact HB.out)⟩⟩
               ·rw [if_neg c16] at H
                exact absurd H (by simp)
              ·rw [if_neg c15] at H
               exact absurd H (by simp)
             ·rw [if_neg c14] at H
              exact absurd H (by simp)
            ·rw [if_neg c13] at H
             exact absurd H (by simp)
           ·rw [if_neg c12] at H
            exact absurd H (by simp)
          ·rw [if_neg c11] at H
           exact absurd H (by simp)
         ·rw [if_neg c9] at H
          have c9b0 : decide (x23_2 < (l1.length : Int)) = false := decide_eq_false c9
          clear c9
          obtain ⟨ji21, hji21⟩ : ∃ j_ : Int, (wrap64 (x18_1 + (l1.length : Int))) = j_ := ⟨_, rfl⟩
          replace H : (if 0 ≤ (ji21) then (if (ji21) < (x5_2.length : Int) then (psephosref01_mul.l0 k2 l0 l1 (x5_2.set ((ji21) : Int).toNat ((x7_2) % 4294967296)) (l0.length : Int) (wrap64 (x18_1 + 1))) else (none)) else (none)) = some r := by first | (rw [hji21] at H; exact H) | (simp only [hji21] at H ⊢; exact H)
          have hji21w : (IntKind.i64.wrap (x18_1 + (l1.length : Int))) = ji21 := (i64_w _).trans hji21
          by_cases c22 : 0 ≤ (ji21)
          ·rw [if_pos c22] at H
           have c22b0 : decide (0 ≤ (ji21)) = true := decide_eq_true c22
           clear c22
           by_cases c23 : (ji21) < (x5_2.length : Int)
           ·rw [if_pos c23] at H
            have c23b0 : decide ((ji21) < (x5_2.length : Int)) = true := decide_eq_true c23
            clear c23
            obtain ⟨y322, hy322⟩ : ∃ y_ : List Int, y_ = (x5_2.set ((ji21) : Int).toNat ((x7_2) % 4294967296)) := ⟨_, rfl⟩
            replace H : (psephosref01_mul.l0 k2 l0 l1 y322 (l0.length : Int) (wrap64 (x18_1 + 1))) = some r := by first | (rw [hy322]; with_reducible exact H) | (have H2_ := (Option.bind_some _ _).symm.trans H; rw [hy322]; with_reducible exact H2_) | (have H2_ := (Option.bind_some _ _).symm.trans H; with_reducible exact H2_) | with_reducible exact H | (rw [hy322]; exact H) | exact H
            have Ny322 := asd hy322
            clear hy322
            have H' := asd H
            clear H
            have p24 : 0 ≤ ((ji21) : Int) := of_decide_eq_true (by first | (with_reducible assumption) | assumption)
            have q24 : ((ji21) : Int) < ((x5_2.length : Int) : Int) := of_decide_eq_true (by first | (with_reducible assumption) | assumption)
            obtain ⟨go24, co24, eo24, gb24, gl24, cl24, HG24⟩ := Kd.R_form HO_5.out (by omega)
            (first | cases eo24 | (injection eo24 with ea_ en_ ec_; (first | subst ea_ | (injection ea_ with ea_; subst ea_)); subst ec_; clear en_))
            have GB24 := asd gb24
            have GG24 := asd HG24
            clear gb24 gl24 HG24
            obtain ⟨hx24_0, hf24_0⟩ := Kd.R_celln 0 HO_5.out ((ji21) : Int) p24 q24
            replace p24 := eq_true p24
            replace q24 := eq_true q24
            have HP25 := Kd.R_putg HO_5.out ((ji21) : Int) ((x7_2) % 4294967296)
            go_wp2_with (first | ((with_reducible refine gate_store (t := 59) (p := 64) rfl ?_); (try (rw [drewN_self wr]; generalize hq_ : World.drewN wr _ = wr; have n0_ := asd (Kd.R_at hq_ HO_5.out); have n1_ := asd (below_at hq_ HB.out); clear hq_ HO_5 HB; have HO_5 := n0_; have HB := n1_; clear n0_ n1_; (try (have HP25 := Kd.R_putg HO_5.out ((ji21) : Int) ((x7_2) % 4294967296))); (try (obtain ⟨hx24_0, hf24_0⟩ := Kd.R_celln 0 HO_5.out ((ji21) : Int) (of_eq_true p24) (of_eq_true q24); (try simp only [Int.toNat_natCast] at hx24_0 hf24_0))))); refine store_event (t := 59) (p := 64) (v := ?vo_w26) (w1 := (wr.setCell ⟨go24, ((ji21) : Int).toNat, none⟩ (.int .u32 ((x7_2) % 4294967296)))) ?hg ?ho ?hn ?hr ?_; (case ho => rfl); (case hg => rfl); (case hn => rfl); (case hr => first | (go_simp; done) | (go_simp; rfl)); intro w26 hw; have hg : wr.grownBy w26 (some go24) := (by rw [hw]; exact HP25.2); have hp_ : Kd.R (Kd.int .u32) 59 w26 w.heap.size (fun _ => True) (.slice (some ⟨go24, 0, none⟩) x5_2.length co24) y322 := (by rw [hw, Ny322.out]; exact HP25.1); clear HP25; have n0_ := asd (hp_); have n1_ := asd ((by rw [hw]; exact below_set (HB.out) GB24.out : Below w.heap.size w w26)); clear HO_5; clear HB; have HO_5 := n0_; have HB := n1_; clear n0_ n1_; clear hg hw hp_))
            repeat (go_quiet (first | ((with_reducible refine gate_store (t := 59) (p := 64) rfl ?_); (try (rw [drewN_self wr]; generalize hq_ : World.drewN wr _ = wr; have n0_ := asd (Kd.R_at hq_ HO_5.out); have n1_ := asd (below_at hq_ HB.out); clear hq_ HO_5 HB; have HO_5 := n0_; have HB := n1_; clear n0_ n1_; (try (have HP25 := Kd.R_putg HO_5.out ((ji21) : Int) ((x7_2) % 4294967296))); (try (obtain ⟨hx24_0, hf24_0⟩ := Kd.R_celln 0 HO_5.out ((ji21) : Int) (of_eq_true p24) (of_eq_true q24); (try simp only [Int.toNat_natCast] at hx24_0 hf24_0))))); refine store_event (t := 59) (p := 64) (v := ?vo_w26) (w1 := (wr.setCell ⟨go24, ((ji21) : Int).toNat, none⟩ (.int .u32 ((x7_2) % 4294967296)))) ?hg ?ho ?hn ?hr ?_; (case ho => rfl); (case hg => rfl); (case hn => rfl); (case hr => first | (go_simp; done) | (go_simp; rfl)); intro w26 hw; have hg : wr.grownBy w26 (some go24) := (by rw [hw]; exact HP25.2); have hp_ : Kd.R (Kd.int .u32) 59 w26 w.heap.size (fun _ => True) (.slice (some ⟨go24, 0, none⟩) x5_2.length co24) y322 := (by rw [hw, Ny322.out]; exact HP25.1); clear HP25; have n0_ := asd (hp_); have n1_ := asd ((by rw [hw]; exact below_set (HB.out) GB24.out : Below w.heap.size w w26)); clear HO_5; clear HB; have HO_5 := n0_; have HB := n1_; clear n0_ n1_; clear hg hw hp_)); try go_wp2_with (first | ((with_reducible refine gate_store (t := 59) (p := 64) rfl ?_); (try (rw [drewN_self wr]; generalize hq_ : World.drewN wr _ = wr; have n0_ := asd (Kd.R_at hq_ HO_5.out); have n1_ := asd (below_at hq_ HB.out); clear hq_ HO_5 HB; have HO_5 := n0_; have HB := n1_; clear n0_ n1_; (try (have HP25 := Kd.R_putg HO_5.out ((ji21) : Int) ((x7_2) % 4294967296))); (try (obtain ⟨hx24_0, hf24_0⟩ := Kd.R_celln 0 HO_5.out ((ji21) : Int) (of_eq_true p24) (of_eq_true q24); (try simp only [Int.toNat_natCast] at hx24_0 hf24_0))))); refine store_event (t := 59) (p := 64) (v := ?vo_w26) (w1 := (wr.setCell ⟨go24, ((ji21) : Int).toNat, none⟩ (.int .u32 ((x7_2) % 4294967296)))) ?hg ?ho ?hn ?hr ?_; (case ho => rfl); (case hg => rfl); (case hn => rfl); (case hr => first | (go_simp; done) | (go_simp; rfl)); intro w26 hw; have hg : wr.grownBy w26 (some go24) := (by rw [hw]; exact HP25.2); have hp_ : Kd.R (Kd.int .u32) 59 w26 w.heap.size (fun _ => True) (.slice (some ⟨go24, 0, none⟩) x5_2.length co24) y322 := (by rw [hw, Ny322.out]; exact HP25.1); clear HP25; have n0_ := asd (hp_); have n1_ := asd ((by rw [hw]; exact below_set (HB.out) GB24.out : Below w.heap.size w w26)); clear HO_5; clear HB; have HO_5 := n0_; have HB := n1_; clear n0_ n1_; clear hg hw hp_)))
            go_roundg k2
            case measure => have := HK1.out; have := HK2.out; omega
            case rel => exact ⟨(y322), (wrap64 (x18_1 + 1)), (by first | rfl | (simp; done) | (simp [*]; done)), H', ⟨by have := HK1.out; have := HK2.out; omega⟩, ⟨by (with_reducible repeat (first | apply Kd.R_alloc | apply Kd.R_drewN | apply Kd.R_drew)); exact HO_5.out⟩, ⟨by repeat (first | (with_reducible first | exact HB.out | apply bA_ | apply bN_ | apply bD_) | exact HB.out)⟩⟩
           ·rw [if_neg c23] at H
            exact absurd H (by simp)
          ·rw [if_neg c22] at H
           exact absurd H (by simp)
      ·rw [if_neg c8] at H
       have c8b0 : decide (x18_1 < (l0.length : Int)) = false := decide_eq_false c8
       clear c8
       replace H := Option.bind_eq_some_iff.mp H
       obtain ⟨t315, A270, H⟩ := H
       replace H : (some t315) = some r := H
       have A27 := asd A270
       clear A270
       obtain rfl := Option.some.inj H
       obtain ⟨Ao28, co28, eo28⟩ := Kd.R_slice HO_5.out
       subst eo28
       go_wp2_with (first | (go_at_call 51; (with_reducible refine (psephosref01_trim.calls k1 _ _ x5_1 t315 _ ?side1 ?side2 A27.out).mono ?_); (case side1 => repeat (first | exact (Kd.R_reads' HO_5.out).2.2 | (with_reducible refine Kd.C_alloc ?_ _) | (with_reducible refine Kd.C_drewN ?_ _) | (with_reducible refine Kd.C_drew ?_))); (case side2 => exact (Kd.R_reads' HO_5.out).2.1); rintro e w29 ⟨v316, rfl, ho0, hb⟩; have n0_ := asd (Kd.R_elder' (by (with_reducible repeat (first | apply Kd.R_alloc | apply Kd.R_drewN | apply Kd.R_drew)); exact HO_5.out) (Kd.R_base ho0) hb); have n1_ := asd (Kd.R_lower (Kd.R_new' ho0 (Kd.R_lt (by (with_reducible repeat (first | apply Kd.R_alloc | apply Kd.R_drewN | apply Kd.R_drew)); exact HO_5.out))) (below_size (by repeat (first | (with_reducible first | exact HB.out | apply bA_ | apply bN_ | apply bD_) | exact HB.out)))); have n2_ := asd (below_step (by repeat (first | (with_reducible first | exact HB.out | apply bA_ | apply bN_ | apply bD_) | exact HB.out)) hb); clear HO_5; clear HB; have HO_5 := n0_; have HO317 := n1_; have HB := n2_; clear n0_ n1_ n2_; (try clear hb); (try clear hb2); (try clear hk); (try clear hi); (try clear ho0)))
       repeat (go_quiet (first | (go_at_call 51; (with_reducible refine (psephosref01_trim.calls k1 _ _ x5_1 t315 _ ?side1 ?side2 A27.out).mono ?_); (case side1 => repeat (first | exact (Kd.R_reads' HO_5.out).2.2 | (with_reducible refine Kd.C_alloc ?_ _) | (with_reducible refine Kd.C_drewN ?_ _) | (with_reducible refine Kd.C_drew ?_))); (case side2 => exact (Kd.R_reads' HO_5.out).2.1); rintro e w29 ⟨v316, rfl, ho0, hb⟩; have n0_ := asd (Kd.R_elder' (by (with_reducible repeat (first | apply Kd.R_alloc | apply Kd.R_drewN | apply Kd.R_drew)); exact HO_5.out) (Kd.R_base ho0) hb); have n1_ := asd (Kd.R_lower (Kd.R_new' ho0 (Kd.R_lt (by (with_reducible repeat (first | apply Kd.R_alloc | apply Kd.R_drewN | apply Kd.R_drew)); exact HO_5.out))) (below_size (by repeat (first | (with_reducible first | exact HB.out | apply bA_ | apply bN_ | apply bD_) | exact HB.out)))); have n2_ := asd (below_step (by repeat (first | (with_reducible first | exact HB.out | apply bA_ | apply bN_ | apply bD_) | exact HB.out)) hb); clear HO_5; clear HB; have HO_5 := n0_; have HO317 := n1_; have HB := n2_; clear n0_ n1_ n2_; (try clear hb); (try clear hb2); (try clear hk); (try clear hi); (try clear ho0))); try go_wp2_with (first | (go_at_call 51; (with_reducible refine (psephosref01_trim.calls k1 _ _ x5_1 t315 _ ?side1 ?side2 A27.out).mono ?_); (case side1 => repeat (first | exact (Kd.R_reads' HO_5.out).2.2 | (with_reducible refine Kd.C_alloc ?_ _) | (with_reducible refine Kd.C_drewN ?_ _) | (with_reducible refine Kd.C_drew ?_))); (case side2 => exact (Kd.R_reads' HO_5.out).2.1); rintro e w29 ⟨v316, rfl, ho0, hb⟩; have n0_ := asd (Kd.R_elder' (by (with_reducible repeat (first | apply Kd.R_alloc | apply Kd.R_drewN | apply Kd.R_drew)); exact HO_5.out) (Kd.R_base ho0) hb); have n1_ := asd (Kd.R_lower (Kd.R_new' ho0 (Kd.R_lt (by (with_reducible repeat (first | apply Kd.R_alloc | apply Kd.R_drewN | apply Kd.R_drew)); exact HO_5.out))) (below_size (by repeat (first | (with_reducible first | exact HB.out | apply bA_ | apply bN_ | apply bD_) | exact HB.out)))); have n2_ := asd (below_step (by repeat (first | (with_reducible first | exact HB.out | apply bA_ | apply bN_ | apply bD_) | exact HB.out)) hb); clear HO_5; clear HB; have HO_5 := n0_; have HO317 := n1_; have HB := n2_; clear n0_ n1_ n2_; (try clear hb); (try clear hb2); (try clear hk); (try clear hi); (try clear ho0))))
       go_ret
       exact ⟨_, by first | rfl | (simp [errW_none, errW_some] <;> rfl) | (simp only [← hji3]; first | rfl | (simp [errW_none, errW_some] <;> rfl)) | (simp [*, errW_none, errW_some] <;> rfl), by (with_reducible repeat (first | apply Kd.R_alloc | apply Kd.R_drewN | apply Kd.R_drew)); exact Kd.R_mono HO317.out (fun _ hk => trivial), by repeat (first | (with_reducible first | exact HB.out | apply bA_ | apply bN_ | apply bD_) | exact HB.out)⟩
   ·rw [if_neg c5] at H
    exact absurd H (by simp)
  ·rw [if_neg c4] at H
   exact absurd H (by simp)

end Go.Proofs.Ytapmhmkekkhhpaa.PMoneySplits
