-- Written by pr.py (wip/tools), a program of this session, over the kit's printer.
import Derived.Test.YtapmhmkekkhhpaaPLimbKeepsx0
namespace Go.Proofs.Ytapmhmkekkhhpaa.PLimbKeeps
open Go.RowKit Go.Proofs.YtapmhmkekkhhpaaW.PrintWords Go.Proofs.YtapmhmkekkhhpaaW.PrintLast Go.Proofs.YtapmhmkekkhhpaaW.PrintMore
attribute [local go_sem] max2_int min2_int max_two min_two max_three min_three max_four min_four   -- for this text's walks alone
set_option linter.unusedVariables false
set_option linter.unusedSimpArgs false

/-! ### limb_take: function 74 -/
def limb_take.l0 : Nat → List Int → List Int → Int → Int → Int → Int → Int → Option (Bool × List Int)
  | 0, _, _, _, _, _, _, _ => none
  | k + 1, x0, x1, x2, x7, x8, x13, x14 => if x14 < x13 then (if x14 < (x1.length : Int) then (if 0 ≤ x14 then (if x14 < (x0.length : Int) then ((some (x0.set (x14 : Int).toNat ((wrap64 ((wrap64 ((wrap64 (rd x0 x14)) - ((IntKind.u64.wrap (x7 + (IntKind.u64.wrap (x2 * (IntKind.u64.wrap (rd x1 x14)))))) % 4294967296))) - x8)) % 4294967296) : List Int)).bind fun y219 => (if (wrap64 ((wrap64 ((wrap64 (rd x0 x14)) - ((IntKind.u64.wrap (x7 + (IntKind.u64.wrap (x2 * (IntKind.u64.wrap (rd x1 x14)))))) % 4294967296))) - x8)) < 0 then (limb_take.l0 k y219 x1 x2 ((IntKind.u64.wrap (x7 + (IntKind.u64.wrap (x2 * (IntKind.u64.wrap (rd x1 x14)))))) / 4294967296) 1 x13 (wrap64 (x14 + 1))) else (limb_take.l0 k y219 x1 x2 ((IntKind.u64.wrap (x7 + (IntKind.u64.wrap (x2 * (IntKind.u64.wrap (rd x1 x14)))))) / 4294967296) 0 x13 (wrap64 (x14 + 1))))) else (none)) else (none)) else (if 0 ≤ x14 then (if x14 < (x0.length : Int) then ((some (x0.set (x14 : Int).toNat ((wrap64 ((wrap64 ((wrap64 (rd x0 x14)) - ((x7) % 4294967296))) - x8)) % 4294967296) : List Int)).bind fun y221 => (if (wrap64 ((wrap64 ((wrap64 (rd x0 x14)) - ((x7) % 4294967296))) - x8)) < 0 then (limb_take.l0 k y221 x1 x2 (x7 / 4294967296) 1 x13 (wrap64 (x14 + 1))) else (limb_take.l0 k y221 x1 x2 (x7 / 4294967296) 0 x13 (wrap64 (x14 + 1))))) else (none)) else (none))) else (some ((x8 != 0), x0))
def limb_take.f (k : Nat) (l0 : List Int) (l1 : List Int) (a2 : Int) : Option (Bool × List Int) := limb_take.l0 k l0 l1 a2 0 0 (l0.length : Int) 0
theorem limb_take.mono_l : ∀ k, (∀ y0 y1 y2 y3 y4 y5 y6, LeO (limb_take.l0 k y0 y1 y2 y3 y4 y5 y6) (limb_take.l0 (k + 1) y0 y1 y2 y3 y4 y5 y6))
  | 0 => fun _ _ _ _ _ _ _ r h => by simp [limb_take.l0] at h
  | k + 1 => by
    have ih0 := limb_take.mono_l k
    · intro y0 y1 y2 y3 y4 y5 y6
      unfold limb_take.l0
      repeat' first
      | (with_reducible exact ih0 _ _ _ _ _ _ _)
      | (with_reducible exact LeO.refl _)
      | (with_reducible exact LeO.none _)
      | (with_reducible refine LeO.ite ?_ ?_)
      | (with_reducible refine LeO.bind ?_ (fun _ => ?_))
      | exact ih0 _ _ _ _ _ _ _
      | exact LeO.none _
      | refine LeO.ite ?_ ?_
      | refine LeO.bind ?_ (fun _ => ?_)
theorem limb_take.mono : ∀ a0 a1 a2 k, LeO (limb_take.f k a0 a1 a2) (limb_take.f (k + 1) a0 a1 a2) := by
  intro a0 a1 a2 k
  have ih0 := limb_take.mono_l k
  unfold limb_take.f
  repeat' first
      | (with_reducible exact ih0 _ _ _ _ _ _ _)
      | (with_reducible exact LeO.refl _)
      | (with_reducible exact LeO.none _)
      | (with_reducible refine LeO.ite ?_ ?_)
      | (with_reducible refine LeO.bind ?_ (fun _ => ?_))
      | exact ih0 _ _ _ _ _ _ _
      | exact LeO.none _
      | refine LeO.ite ?_ ?_
      | refine LeO.bind ?_ (fun _ => ?_)
set_option maxHeartbeats 8000000 in
set_option maxRecDepth 100000 in
theorem limb_take.calls (k : Nat) (P0_ : Nat → Prop) (u9000_ : Value) (l0 : List Int) (A1 : Option Addr) (c1 : Nat) (l1 : List Int) (a2 : Int) (r1 : Bool) (r2 : List Int) (w0 w : World) (hB : Below w0.heap.size w0 w) (ho0 : Kd.R (Kd.int .u32) 59 w w0.heap.size P0_ u9000_ l0) (hr1 : ∀ W_, Kept w W_ (fun k_ => P0_ k_) → Kd.C (Kd.int .u32) W_ A1 l1.length l1) (hc1 : l1.length ≤ c1) (h : limb_take.f k l0 l1 a2 = some (r1, r2)) :
    Calls Try.prog 74 #[u9000_, .slice A1 l1.length c1, .int .u64 a2] w fun e w' => e = .returned (.bool r1) ∧ Kd.R (Kd.int .u32) 59 w' w0.heap.size (fun k_ => (P0_ k_ ∨ w.heap.size ≤ k_)) u9000_ r2 ∧ Below w0.heap.size w0 w' ∧ Kept w w' (fun k_ => P0_ k_) := by
  have HO0 := Aside0.mk (show Kd.R (Kd.int .u32) 59 w w0.heap.size (fun k_ => (P0_ k_ ∨ w.heap.size ≤ k_)) u9000_ l0 from Kd.R_mono ho0 (fun k_ hk => (.inl hk)))
  have HR1 := Aside0.mk hr1
  have HC1 := Aside0.mk hc1
  clear hr1 hc1
  have HK := Aside0.mk (Kept.refl w (fun k_ => P0_ k_))
  have HW0 := Aside0.mk hB.size
  have HB := Aside0.mk hB
  clear hB
  have H : (limb_take.l0 k l0 l1 a2 0 0 (l0.length : Int) 0) = some (r1, r2) := h
  clear h
  have H' := Aside0.mk H
  clear H
  obtain ⟨Ao4, co4, eo4⟩ := Kd.R_slice HO0.out
  subst eo4
  go_enter Try.func74, Try.ntmps74
  go_wp2
  go_loopg [7, 8, 14] k (fun kq v7 v8 v14 w' => ∃ (x0_1 : List Int) (x7_1 : Int) (x8_1 : Int) (x14_1 : Int), v7 = .int .u64 x7_1 ∧ v8 = .int .i64 x8_1 ∧ v14 = .int .i64 x14_1 ∧ Aside0 (limb_take.l0 kq x0_1 l1 a2 x7_1 x8_1 (l0.length : Int) x14_1 = some (r1, r2)) ∧ Aside0 (kq ≤ k) ∧ Aside0 (Kd.R (Kd.int .u32) 59 w' w0.heap.size (fun k_ => (P0_ k_ ∨ w.heap.size ≤ k_)) (.slice Ao4 l0.length co4) x0_1) ∧ Aside0 (Kept w w' (fun k_ => P0_ k_)) ∧ Aside0 (Below w0.heap.size w0 w'))
  case atStart => exact ⟨(l0), (0), (0), (0), (by first | rfl | (simp; done) | (simp [*]; done)), (by first | rfl | (simp; done) | (simp [*]; done)), (by first | rfl | (simp; done) | (simp [*]; done)), H', ⟨Nat.le_refl _⟩, ⟨by (with_reducible repeat (first | apply Kd.R_alloc | apply Kd.R_drewN | apply Kd.R_drew)); exact HO0.out⟩, ⟨by repeat (first | (with_reducible first | exact HK.out | apply Kept.alloc | apply Kept.drewN | apply Kept.drew) | exact HK.out)⟩, ⟨by repeat (first | (with_reducible first | exact HB.out | apply below_alloc | apply pw_below_drewN | apply below_drew1) | exact HB.out)⟩⟩
  case round =>
    clear H'
    try clear c1
    try clear p2
    obtain ⟨x0_1, x7_1, x8_1, x14_1, rfl, rfl, rfl, HA, HK1, HO_0, HK, HB⟩ := hrel
    have hl0_1 := (Kd.R_reads' HO_0.out).1
    rw [hl0_1] at HO_0
    (try simp only [hl0_1])
    cases gk with
    | zero => exact absurd HA.out (by simp [limb_take.l0])
    | succ k1 =>
      have H := HA.out
      clear HA
      simp only [limb_take.l0] at H
      by_cases c5 : x14_1 < (l0.length : Int)
      · rw [if_pos c5] at H
        have c5b0 : decide (x14_1 < (l0.length : Int)) = true := decide_eq_true c5
        clear c5
        by_cases c6 : x14_1 < (l1.length : Int)
        · rw [if_pos c6] at H
          have c6b0 : decide (x14_1 < (l1.length : Int)) = true := decide_eq_true c6
          clear c6
          by_cases c7 : 0 ≤ x14_1
          · rw [if_pos c7] at H
            have c7b0 : decide (0 ≤ x14_1) = true := decide_eq_true c7
            clear c7
            by_cases c8 : x14_1 < (x0_1.length : Int)
            · rw [if_pos c8] at H
              have c8b0 : decide (x14_1 < (x0_1.length : Int)) = true := decide_eq_true c8
              clear c8
              obtain ⟨y219, hy219⟩ : ∃ y_ : List Int, y_ = (x0_1.set (x14_1 : Int).toNat ((wrap64 ((wrap64 ((wrap64 (rd x0_1 x14_1)) - ((IntKind.u64.wrap (x7_1 + (IntKind.u64.wrap (a2 * (IntKind.u64.wrap (rd l1 x14_1)))))) % 4294967296))) - x8_1)) % 4294967296)) := ⟨_, rfl⟩
              replace H : (if (wrap64 ((wrap64 ((wrap64 (rd x0_1 x14_1)) - ((IntKind.u64.wrap (x7_1 + (IntKind.u64.wrap (a2 * (IntKind.u64.wrap (rd l1 x14_1)))))) % 4294967296))) - x8_1)) < 0 then (limb_take.l0 k1 y219 l1 a2 ((IntKind.u64.wrap (x7_1 + (IntKind.u64.wrap (a2 * (IntKind.u64.wrap (rd l1 x14_1)))))) / 4294967296) 1 (l0.length : Int) (wrap64 (x14_1 + 1))) else (limb_take.l0 k1 y219 l1 a2 ((IntKind.u64.wrap (x7_1 + (IntKind.u64.wrap (a2 * (IntKind.u64.wrap (rd l1 x14_1)))))) / 4294967296) 0 (l0.length : Int) (wrap64 (x14_1 + 1)))) = some (r1, r2) := by first | (rw [hy219]; with_reducible exact H) | (have H2_ := (Option.bind_some _ _).symm.trans H; rw [hy219]; with_reducible exact H2_) | (have H2_ := (Option.bind_some _ _).symm.trans H; with_reducible exact H2_) | with_reducible exact H | (rw [hy219]; exact H) | exact H
              have Ny219 := Aside0.mk hy219
              clear hy219
              by_cases c10 : (wrap64 ((wrap64 ((wrap64 (rd x0_1 x14_1)) - ((IntKind.u64.wrap (x7_1 + (IntKind.u64.wrap (a2 * (IntKind.u64.wrap (rd l1 x14_1)))))) % 4294967296))) - x8_1)) < 0
              · rw [if_pos c10] at H
                have c10b0 : decide ((wrap64 ((wrap64 ((wrap64 (rd x0_1 x14_1)) - ((IntKind.u64.wrap (x7_1 + (IntKind.u64.wrap (a2 * (IntKind.u64.wrap (rd l1 x14_1)))))) % 4294967296))) - x8_1)) < 0) = true := decide_eq_true c10
                clear c10
                have H' := Aside0.mk H
                clear H
                have p217 : 0 ≤ (x14_1 : Int) := of_decide_eq_true (by first | (with_reducible assumption) | assumption)
                have q217 : x14_1 < (l1.length : Int) := of_decide_eq_true (by first | (with_reducible assumption) | assumption)
                obtain ⟨ad217, e217, hx217_0⟩ := Kd.at_int (Kd.C_kept_now HR1.out HK.out) x14_1 p217 q217
                cases e217
                replace p217 := eq_true p217
                replace q217 := eq_true q217
                have p218 : 0 ≤ (x14_1 : Int) := of_decide_eq_true (by first | (with_reducible assumption) | assumption)
                have q218 : x14_1 < (x0_1.length : Int) := of_decide_eq_true (by first | (with_reducible assumption) | assumption)
                obtain ⟨ad218, e218, hx218_0⟩ := Kd.at_int (Kd.R_reads' HO_0.out).2.2 x14_1 p218 q218
                cases e218
                replace p218 := eq_true p218
                replace q218 := eq_true q218
                have p9 : 0 ≤ (x14_1 : Int) := of_decide_eq_true (by first | (with_reducible assumption) | assumption)
                have q9 : (x14_1 : Int) < ((x0_1.length : Int) : Int) := of_decide_eq_true (by first | (with_reducible assumption) | assumption)
                obtain ⟨go9, co9, eo9, gb9, gl9, cl9, HG9⟩ := Kd.R_form HO_0.out (by omega)
                (first | cases eo9 | (injection eo9 with ea_ en_ ec_; (first | subst ea_ | (injection ea_ with ea_; subst ea_)); subst ec_; clear en_))
                have GB9 := Aside0.mk gb9
                have GG9 := Aside0.mk HG9
                clear gb9 gl9 HG9
                have HMgo9 := Aside0.mk (show (P0_ go9 ∨ w.heap.size ≤ go9) from (HO_0.out.1 _ rfl))
                (first | simp only [add_plain] at hx218_0 | skip)
                obtain ⟨hx9_0, hf9_0⟩ := Kd.R_celln 0 HO_0.out (x14_1 : Int) p9 q9
                replace p9 := eq_true p9
                replace q9 := eq_true q9
                have HP11 := Kd.R_putg HO_0.out (x14_1 : Int) ((wrap64 ((wrap64 ((wrap64 (rd x0_1 x14_1)) - ((IntKind.u64.wrap (x7_1 + (IntKind.u64.wrap (a2 * (IntKind.u64.wrap (rd l1 x14_1)))))) % 4294967296))) - x8_1)) % 4294967296)
                go_wp2_with (first | ((with_reducible refine gate_store (t := 59) (p := 46) rfl ?_); refine store_event (t := 59) (p := 46) (v := ?vo_w12) (w1 := (wr.setCell ⟨go9, (x14_1 : Int).toNat, none⟩ (.int .u32 ((wrap64 ((wrap64 ((wrap64 (rd x0_1 x14_1)) - ((IntKind.u64.wrap (x7_1 + (IntKind.u64.wrap (a2 * (IntKind.u64.wrap (rd l1 x14_1)))))) % 4294967296))) - x8_1)) % 4294967296)))) ?hg ?ho ?hn ?hr ?_; (case ho => rfl); (case hg => rfl); (case hn => rfl); (case hr => first | (go_simp; done) | (go_simp; rfl)); intro w12 hw; have hg : wr.grownBy w12 (some go9) := (by rw [hw]; exact HP11.2); have hp_ : Kd.R (Kd.int .u32) 59 w12 w0.heap.size (fun k_ => (P0_ k_ ∨ w.heap.size ≤ k_)) (.slice (some ⟨go9, 0, none⟩) x0_1.length co4) y219 := (by rw [hw, Ny219.out]; exact HP11.1); clear HP11; have n0_ := Aside0.mk (hp_); have n1_ := Aside0.mk ((by rw [hw]; exact below_set (HB.out) GB9.out : Below w0.heap.size w0 w12)); have n2_ := Aside0.mk (Kept.of_grown (S := (fun k_ => P0_ k_)) hg (by repeat (first | (with_reducible first | exact HK.out | apply Kept.alloc | apply Kept.drewN | apply Kept.drew) | exact HK.out)) (fun k_ e_ => (HO_0.out.1 k_ e_))); clear HO_0; clear HB; clear HK; have HO_0 := n0_; have HB := n1_; have HK := n2_; clear n0_ n1_ n2_; clear hg hw hp_))
                (try simp only [← hl0_1])
                go_roundg k1
                case measure => have := HK1.out; omega
                case rel => exact ⟨(y219), ((IntKind.u64.wrap (x7_1 + (IntKind.u64.wrap (a2 * (IntKind.u64.wrap (rd l1 x14_1)))))) / 4294967296), (1), (wrap64 (x14_1 + 1)), (by first | rfl | (simp; done) | (simp [*]; done)), (by first | rfl | (simp; done) | (simp [*]; done)), (by first | rfl | (simp; done) | (simp [*]; done)), H', ⟨by have := HK1.out; omega⟩, ⟨by (try simp only [hl0_1]); (with_reducible repeat (first | apply Kd.R_alloc | apply Kd.R_drewN | apply Kd.R_drew)); exact HO_0.out⟩, ⟨by repeat (first | (with_reducible first | exact HK.out | apply Kept.alloc | apply Kept.drewN | apply Kept.drew) | exact HK.out)⟩, ⟨by repeat (first | (with_reducible first | exact HB.out | apply below_alloc | apply pw_below_drewN | apply below_drew1) | exact HB.out)⟩⟩
              · rw [if_neg c10] at H
                have c10b0 : decide ((wrap64 ((wrap64 ((wrap64 (rd x0_1 x14_1)) - ((IntKind.u64.wrap (x7_1 + (IntKind.u64.wrap (a2 * (IntKind.u64.wrap (rd l1 x14_1)))))) % 4294967296))) - x8_1)) < 0) = false := decide_eq_false c10
                clear c10
                have H' := Aside0.mk H
                clear H
                have p217 : 0 ≤ (x14_1 : Int) := of_decide_eq_true (by first | (with_reducible assumption) | assumption)
                have q217 : x14_1 < (l1.length : Int) := of_decide_eq_true (by first | (with_reducible assumption) | assumption)
                obtain ⟨ad217, e217, hx217_0⟩ := Kd.at_int (Kd.C_kept_now HR1.out HK.out) x14_1 p217 q217
                cases e217
                replace p217 := eq_true p217
                replace q217 := eq_true q217
                have p218 : 0 ≤ (x14_1 : Int) := of_decide_eq_true (by first | (with_reducible assumption) | assumption)
                have q218 : x14_1 < (x0_1.length : Int) := of_decide_eq_true (by first | (with_reducible assumption) | assumption)
                obtain ⟨ad218, e218, hx218_0⟩ := Kd.at_int (Kd.R_reads' HO_0.out).2.2 x14_1 p218 q218
                cases e218
                replace p218 := eq_true p218
                replace q218 := eq_true q218
                have p9 : 0 ≤ (x14_1 : Int) := of_decide_eq_true (by first | (with_reducible assumption) | assumption)
                have q9 : (x14_1 : Int) < ((x0_1.length : Int) : Int) := of_decide_eq_true (by first | (with_reducible assumption) | assumption)
                obtain ⟨go9, co9, eo9, gb9, gl9, cl9, HG9⟩ := Kd.R_form HO_0.out (by omega)
                (first | cases eo9 | (injection eo9 with ea_ en_ ec_; (first | subst ea_ | (injection ea_ with ea_; subst ea_)); subst ec_; clear en_))
                have GB9 := Aside0.mk gb9
                have GG9 := Aside0.mk HG9
                clear gb9 gl9 HG9
                have HMgo9 := Aside0.mk (show (P0_ go9 ∨ w.heap.size ≤ go9) from (HO_0.out.1 _ rfl))
                (first | simp only [add_plain] at hx218_0 | skip)
                obtain ⟨hx9_0, hf9_0⟩ := Kd.R_celln 0 HO_0.out (x14_1 : Int) p9 q9
                replace p9 := eq_true p9
                replace q9 := eq_true q9
                have HP13 := Kd.R_putg HO_0.out (x14_1 : Int) ((wrap64 ((wrap64 ((wrap64 (rd x0_1 x14_1)) - ((IntKind.u64.wrap (x7_1 + (IntKind.u64.wrap (a2 * (IntKind.u64.wrap (rd l1 x14_1)))))) % 4294967296))) - x8_1)) % 4294967296)
                go_wp2_with (first | ((with_reducible refine gate_store (t := 59) (p := 46) rfl ?_); refine store_event (t := 59) (p := 46) (v := ?vo_w14) (w1 := (wr.setCell ⟨go9, (x14_1 : Int).toNat, none⟩ (.int .u32 ((wrap64 ((wrap64 ((wrap64 (rd x0_1 x14_1)) - ((IntKind.u64.wrap (x7_1 + (IntKind.u64.wrap (a2 * (IntKind.u64.wrap (rd l1 x14_1)))))) % 4294967296))) - x8_1)) % 4294967296)))) ?hg ?ho ?hn ?hr ?_; (case ho => rfl); (case hg => rfl); (case hn => rfl); (case hr => first | (go_simp; done) | (go_simp; rfl)); intro w14 hw; have hg : wr.grownBy w14 (some go9) := (by rw [hw]; exact HP13.2); have hp_ : Kd.R (Kd.int .u32) 59 w14 w0.heap.size (fun k_ => (P0_ k_ ∨ w.heap.size ≤ k_)) (.slice (some ⟨go9, 0, none⟩) x0_1.length co4) y219 := (by rw [hw, Ny219.out]; exact HP13.1); clear HP13; have n0_ := Aside0.mk (hp_); have n1_ := Aside0.mk ((by rw [hw]; exact below_set (HB.out) GB9.out : Below w0.heap.size w0 w14)); have n2_ := Aside0.mk (Kept.of_grown (S := (fun k_ => P0_ k_)) hg (by repeat (first | (with_reducible first | exact HK.out | apply Kept.alloc | apply Kept.drewN | apply Kept.drew) | exact HK.out)) (fun k_ e_ => (HO_0.out.1 k_ e_))); clear HO_0; clear HB; clear HK; have HO_0 := n0_; have HB := n1_; have HK := n2_; clear n0_ n1_ n2_; clear hg hw hp_))
                (try simp only [← hl0_1])
                go_roundg k1
                case measure => have := HK1.out; omega
                case rel => exact ⟨(y219), ((IntKind.u64.wrap (x7_1 + (IntKind.u64.wrap (a2 * (IntKind.u64.wrap (rd l1 x14_1)))))) / 4294967296), (0), (wrap64 (x14_1 + 1)), (by first | rfl | (simp; done) | (simp [*]; done)), (by first | rfl | (simp; done) | (simp [*]; done)), (by first | rfl | (simp; done) | (simp [*]; done)), H', ⟨by have := HK1.out; omega⟩, ⟨by (try simp only [hl0_1]); (with_reducible repeat (first | apply Kd.R_alloc | apply Kd.R_drewN | apply Kd.R_drew)); exact HO_0.out⟩, ⟨by repeat (first | (with_reducible first | exact HK.out | apply Kept.alloc | apply Kept.drewN | apply Kept.drew) | exact HK.out)⟩, ⟨by repeat (first | (with_reducible first | exact HB.out | apply below_alloc | apply pw_below_drewN | apply below_drew1) | exact HB.out)⟩⟩
            · rw [if_neg c8] at H
              exact absurd H (by simp)
          · rw [if_neg c7] at H
            exact absurd H (by simp)
        · rw [if_neg c6] at H
          have c6b0 : decide (x14_1 < (l1.length : Int)) = false := decide_eq_false c6
          (try simp only [hl0_1] at c6b0)
          clear c6
          by_cases c15 : 0 ≤ x14_1
          · rw [if_pos c15] at H
            have c15b0 : decide (0 ≤ x14_1) = true := decide_eq_true c15
            clear c15
            by_cases c16 : x14_1 < (x0_1.length : Int)
            · rw [if_pos c16] at H
              have c16b0 : decide (x14_1 < (x0_1.length : Int)) = true := decide_eq_true c16
              clear c16
              obtain ⟨y221, hy221⟩ : ∃ y_ : List Int, y_ = (x0_1.set (x14_1 : Int).toNat ((wrap64 ((wrap64 ((wrap64 (rd x0_1 x14_1)) - ((x7_1) % 4294967296))) - x8_1)) % 4294967296)) := ⟨_, rfl⟩
              replace H : (if (wrap64 ((wrap64 ((wrap64 (rd x0_1 x14_1)) - ((x7_1) % 4294967296))) - x8_1)) < 0 then (limb_take.l0 k1 y221 l1 a2 (x7_1 / 4294967296) 1 (l0.length : Int) (wrap64 (x14_1 + 1))) else (limb_take.l0 k1 y221 l1 a2 (x7_1 / 4294967296) 0 (l0.length : Int) (wrap64 (x14_1 + 1)))) = some (r1, r2) := by first | (rw [hy221]; with_reducible exact H) | (have H2_ := (Option.bind_some _ _).symm.trans H; rw [hy221]; with_reducible exact H2_) | (have H2_ := (Option.bind_some _ _).symm.trans H; with_reducible exact H2_) | with_reducible exact H | (rw [hy221]; exact H) | exact H
              have Ny221 := Aside0.mk hy221
              clear hy221
              by_cases c18 : (wrap64 ((wrap64 ((wrap64 (rd x0_1 x14_1)) - ((x7_1) % 4294967296))) - x8_1)) < 0
              · rw [if_pos c18] at H
                have c18b0 : decide ((wrap64 ((wrap64 ((wrap64 (rd x0_1 x14_1)) - ((x7_1) % 4294967296))) - x8_1)) < 0) = true := decide_eq_true c18
                clear c18
                have H' := Aside0.mk H
                clear H
                have p220 : 0 ≤ (x14_1 : Int) := of_decide_eq_true (by first | (with_reducible assumption) | assumption)
                have q220 : x14_1 < (x0_1.length : Int) := of_decide_eq_true (by first | (with_reducible assumption) | assumption)
                obtain ⟨ad220, e220, hx220_0⟩ := Kd.at_int (Kd.R_reads' HO_0.out).2.2 x14_1 p220 q220
                cases e220
                replace p220 := eq_true p220
                replace q220 := eq_true q220
                have p17 : 0 ≤ (x14_1 : Int) := of_decide_eq_true (by first | (with_reducible assumption) | assumption)
                have q17 : (x14_1 : Int) < ((x0_1.length : Int) : Int) := of_decide_eq_true (by first | (with_reducible assumption) | assumption)
                obtain ⟨go17, co17, eo17, gb17, gl17, cl17, HG17⟩ := Kd.R_form HO_0.out (by omega)
                (first | cases eo17 | (injection eo17 with ea_ en_ ec_; (first | subst ea_ | (injection ea_ with ea_; subst ea_)); subst ec_; clear en_))
                have GB17 := Aside0.mk gb17
                have GG17 := Aside0.mk HG17
                clear gb17 gl17 HG17
                have HMgo17 := Aside0.mk (show (P0_ go17 ∨ w.heap.size ≤ go17) from (HO_0.out.1 _ rfl))
                (first | simp only [add_plain] at hx220_0 | skip)
                obtain ⟨hx17_0, hf17_0⟩ := Kd.R_celln 0 HO_0.out (x14_1 : Int) p17 q17
                replace p17 := eq_true p17
                replace q17 := eq_true q17
                have HP19 := Kd.R_putg HO_0.out (x14_1 : Int) ((wrap64 ((wrap64 ((wrap64 (rd x0_1 x14_1)) - ((x7_1) % 4294967296))) - x8_1)) % 4294967296)
                go_wp2_with (first | ((with_reducible refine gate_store (t := 59) (p := 46) rfl ?_); refine store_event (t := 59) (p := 46) (v := ?vo_w20) (w1 := (wr.setCell ⟨go17, (x14_1 : Int).toNat, none⟩ (.int .u32 ((wrap64 ((wrap64 ((wrap64 (rd x0_1 x14_1)) - ((x7_1) % 4294967296))) - x8_1)) % 4294967296)))) ?hg ?ho ?hn ?hr ?_; (case ho => rfl); (case hg => rfl); (case hn => rfl); (case hr => first | (go_simp; done) | (go_simp; rfl)); intro w20 hw; have hg : wr.grownBy w20 (some go17) := (by rw [hw]; exact HP19.2); have hp_ : Kd.R (Kd.int .u32) 59 w20 w0.heap.size (fun k_ => (P0_ k_ ∨ w.heap.size ≤ k_)) (.slice (some ⟨go17, 0, none⟩) x0_1.length co4) y221 := (by rw [hw, Ny221.out]; exact HP19.1); clear HP19; have n0_ := Aside0.mk (hp_); have n1_ := Aside0.mk ((by rw [hw]; exact below_set (HB.out) GB17.out : Below w0.heap.size w0 w20)); have n2_ := Aside0.mk (Kept.of_grown (S := (fun k_ => P0_ k_)) hg (by repeat (first | (with_reducible first | exact HK.out | apply Kept.alloc | apply Kept.drewN | apply Kept.drew) | exact HK.out)) (fun k_ e_ => (HO_0.out.1 k_ e_))); clear HO_0; clear HB; clear HK; have HO_0 := n0_; have HB := n1_; have HK := n2_; clear n0_ n1_ n2_; clear hg hw hp_))
                (try simp only [← hl0_1])
                go_roundg k1
                case measure => have := HK1.out; omega
                case rel => exact ⟨(y221), (x7_1 / 4294967296), (1), (wrap64 (x14_1 + 1)), (by first | rfl | (simp; done) | (simp [*]; done)), (by first | rfl | (simp; done) | (simp [*]; done)), (by first | rfl | (simp; done) | (simp [*]; done)), H', ⟨by have := HK1.out; omega⟩, ⟨by (try simp only [hl0_1]); (with_reducible repeat (first | apply Kd.R_alloc | apply Kd.R_drewN | apply Kd.R_drew)); exact HO_0.out⟩, ⟨by repeat (first | (with_reducible first | exact HK.out | apply Kept.alloc | apply Kept.drewN | apply Kept.drew) | exact HK.out)⟩, ⟨by repeat (first | (with_reducible first | exact HB.out | apply below_alloc | apply pw_below_drewN | apply below_drew1) | exact HB.out)⟩⟩
              · rw [if_neg c18] at H
                have c18b0 : decide ((wrap64 ((wrap64 ((wrap64 (rd x0_1 x14_1)) - ((x7_1) % 4294967296))) - x8_1)) < 0) = false := decide_eq_false c18
                clear c18
                have H' := Aside0.mk H
                clear H
                have p220 : 0 ≤ (x14_1 : Int) := of_decide_eq_true (by first | (with_reducible assumption) | assumption)
                have q220 : x14_1 < (x0_1.length : Int) := of_decide_eq_true (by first | (with_reducible assumption) | assumption)
                obtain ⟨ad220, e220, hx220_0⟩ := Kd.at_int (Kd.R_reads' HO_0.out).2.2 x14_1 p220 q220
                cases e220
                replace p220 := eq_true p220
                replace q220 := eq_true q220
                have p17 : 0 ≤ (x14_1 : Int) := of_decide_eq_true (by first | (with_reducible assumption) | assumption)
                have q17 : (x14_1 : Int) < ((x0_1.length : Int) : Int) := of_decide_eq_true (by first | (with_reducible assumption) | assumption)
                obtain ⟨go17, co17, eo17, gb17, gl17, cl17, HG17⟩ := Kd.R_form HO_0.out (by omega)
                (first | cases eo17 | (injection eo17 with ea_ en_ ec_; (first | subst ea_ | (injection ea_ with ea_; subst ea_)); subst ec_; clear en_))
                have GB17 := Aside0.mk gb17
                have GG17 := Aside0.mk HG17
                clear gb17 gl17 HG17
                have HMgo17 := Aside0.mk (show (P0_ go17 ∨ w.heap.size ≤ go17) from (HO_0.out.1 _ rfl))
                (first | simp only [add_plain] at hx220_0 | skip)
                obtain ⟨hx17_0, hf17_0⟩ := Kd.R_celln 0 HO_0.out (x14_1 : Int) p17 q17
                replace p17 := eq_true p17
                replace q17 := eq_true q17
                have HP21 := Kd.R_putg HO_0.out (x14_1 : Int) ((wrap64 ((wrap64 ((wrap64 (rd x0_1 x14_1)) - ((x7_1) % 4294967296))) - x8_1)) % 4294967296)
                go_wp2_with (first | ((with_reducible refine gate_store (t := 59) (p := 46) rfl ?_); refine store_event (t := 59) (p := 46) (v := ?vo_w22) (w1 := (wr.setCell ⟨go17, (x14_1 : Int).toNat, none⟩ (.int .u32 ((wrap64 ((wrap64 ((wrap64 (rd x0_1 x14_1)) - ((x7_1) % 4294967296))) - x8_1)) % 4294967296)))) ?hg ?ho ?hn ?hr ?_; (case ho => rfl); (case hg => rfl); (case hn => rfl); (case hr => first | (go_simp; done) | (go_simp; rfl)); intro w22 hw; have hg : wr.grownBy w22 (some go17) := (by rw [hw]; exact HP21.2); have hp_ : Kd.R (Kd.int .u32) 59 w22 w0.heap.size (fun k_ => (P0_ k_ ∨ w.heap.size ≤ k_)) (.slice (some ⟨go17, 0, none⟩) x0_1.length co4) y221 := (by rw [hw, Ny221.out]; exact HP21.1); clear HP21; have n0_ := Aside0.mk (hp_); have n1_ := Aside0.mk ((by rw [hw]; exact below_set (HB.out) GB17.out : Below w0.heap.size w0 w22)); have n2_ := Aside0.mk (Kept.of_grown (S := (fun k_ => P0_ k_)) hg (by repeat (first | (with_reducible first | exact HK.out | apply Kept.alloc | apply Kept.drewN | apply Kept.drew) | exact HK.out)) (fun k_ e_ => (HO_0.out.1 k_ e_))); clear HO_0; clear HB; clear HK; have HO_0 := n0_; have HB := n1_; have HK := n2_; clear n0_ n1_ n2_; clear hg hw hp_))
                (try simp only [← hl0_1])
                go_roundg k1
                case measure => have := HK1.out; omega
                case rel => exact ⟨(y221), (x7_1 / 4294967296), (0), (wrap64 (x14_1 + 1)), (by first | rfl | (simp; done) | (simp [*]; done)), (by first | rfl | (simp; done) | (simp [*]; done)), (by first | rfl | (simp; done) | (simp [*]; done)), H', ⟨by have := HK1.out; omega⟩, ⟨by (try simp only [hl0_1]); (with_reducible repeat (first | apply Kd.R_alloc | apply Kd.R_drewN | apply Kd.R_drew)); exact HO_0.out⟩, ⟨by repeat (first | (with_reducible first | exact HK.out | apply Kept.alloc | apply Kept.drewN | apply Kept.drew) | exact HK.out)⟩, ⟨by repeat (first | (with_reducible first | exact HB.out | apply below_alloc | apply pw_below_drewN | apply below_drew1) | exact HB.out)⟩⟩
            · rw [if_neg c16] at H
              exact absurd H (by simp)
          · rw [if_neg c15] at H
            exact absurd H (by simp)
      · rw [if_neg c5] at H
        have c5b0 : decide (x14_1 < (l0.length : Int)) = false := decide_eq_false c5
        (try simp only [hl0_1] at c5b0)
        clear c5
        simp only [Option.some.injEq, Prod.mk.injEq] at H
        obtain ⟨rfl, rfl⟩ := H
        go_wp2
        go_ret
        exact ⟨by first | rfl | (simp [errW_none, errW_some] <;> rfl) | (simp [*, errW_none, errW_some] <;> rfl), (by first | exact (by (with_reducible repeat (first | apply Kd.R_alloc | apply Kd.R_drewN | apply Kd.R_drew)); exact HO_0.out) | (simp only [hl0_1]; exact (by (with_reducible repeat (first | apply Kd.R_alloc | apply Kd.R_drewN | apply Kd.R_drew)); exact HO_0.out))), by repeat (first | (with_reducible first | exact HB.out | apply below_alloc | apply pw_below_drewN | apply below_drew1) | exact HB.out), by repeat (first | (with_reducible first | exact HK.out | apply Kept.alloc | apply Kept.drewN | apply Kept.drew) | exact HK.out)⟩
set_option maxHeartbeats 8000000 in
set_option maxRecDepth 100000 in
theorem limb_take.win (k : Nat) (P0_ : Nat → Prop) (g_ N_ CAP_ c0_ : Nat) (pre_ l0 post_ : List Int) (A1 : Option Addr) (c1 : Nat) (l1 : List Int) (a2 : Int) (r1 : Bool) (r2 : List Int) (w0 w : World) (hB : Below w0.heap.size w0 w) (ho0 : Kd.R (Kd.int .u32) 59 w w0.heap.size P0_ (.slice (some ⟨g_, 0, none⟩) N_ CAP_) (pre_ ++ l0 ++ post_)) (hr1 : ∀ W_, Kept w W_ (fun k_ => P0_ k_) → Kd.C (Kd.int .u32) W_ A1 l1.length l1) (hc1 : l1.length ≤ c1) (h : limb_take.f k l0 l1 a2 = some (r1, r2)) :
    Calls Try.prog 74 #[.slice (some ⟨g_, pre_.length, none⟩) l0.length c0_, .slice A1 l1.length c1, .int .u64 a2] w fun e w' => e = .returned (.bool r1) ∧ Kd.R (Kd.int .u32) 59 w' w0.heap.size (fun k_ => (P0_ k_ ∨ w.heap.size ≤ k_)) (.slice (some ⟨g_, 0, none⟩) N_ CAP_) (pre_ ++ r2 ++ post_) ∧ Below w0.heap.size w0 w' ∧ Kept w w' (fun k_ => P0_ k_) := by
  have HO0 := Aside0.mk (show Kd.R (Kd.int .u32) 59 w w0.heap.size (fun k_ => (P0_ k_ ∨ w.heap.size ≤ k_)) (.slice (some ⟨g_, 0, none⟩) N_ CAP_) (pre_ ++ l0 ++ post_) from Kd.R_mono ho0 (fun k_ hk => (.inl hk)))
  have HR1 := Aside0.mk hr1
  have HC1 := Aside0.mk hc1
  clear hr1 hc1
  have HK := Aside0.mk (Kept.refl w (fun k_ => P0_ k_))
  have HW0 := Aside0.mk hB.size
  have HB := Aside0.mk hB
  clear hB
  have H : (limb_take.l0 k l0 l1 a2 0 0 (l0.length : Int) 0) = some (r1, r2) := h
  clear h
  have H' := Aside0.mk H
  clear H
  have hN_ := Aside0.mk (show N_ = (pre_ ++ l0 ++ post_).length from (Kd.R_reads' HO0.out).1)
  go_enter Try.func74, Try.ntmps74
  go_wp2
  go_loopg [7, 8, 14] k (fun kq v7 v8 v14 w' => ∃ (x0_1 : List Int) (x7_1 : Int) (x8_1 : Int) (x14_1 : Int), v7 = .int .u64 x7_1 ∧ v8 = .int .i64 x8_1 ∧ v14 = .int .i64 x14_1 ∧ Aside0 (limb_take.l0 kq x0_1 l1 a2 x7_1 x8_1 (l0.length : Int) x14_1 = some (r1, r2)) ∧ Aside0 (kq ≤ k) ∧ Aside0 (Kd.R (Kd.int .u32) 59 w' w0.heap.size (fun k_ => (P0_ k_ ∨ w.heap.size ≤ k_)) (.slice (some ⟨g_, 0, none⟩) N_ CAP_) (pre_ ++ x0_1 ++ post_)) ∧ Aside0 (Kept w w' (fun k_ => P0_ k_)) ∧ Aside0 (Below w0.heap.size w0 w'))
  case atStart => exact ⟨(l0), (0), (0), (0), (by first | rfl | (simp; done) | (simp [*]; done)), (by first | rfl | (simp; done) | (simp [*]; done)), (by first | rfl | (simp; done) | (simp [*]; done)), H', ⟨Nat.le_refl _⟩, ⟨by (with_reducible repeat (first | apply Kd.R_alloc | apply Kd.R_drewN | apply Kd.R_drew)); exact HO0.out⟩, ⟨by repeat (first | (with_reducible first | exact HK.out | apply Kept.alloc | apply Kept.drewN | apply Kept.drew) | exact HK.out)⟩, ⟨by repeat (first | (with_reducible first | exact HB.out | apply below_alloc | apply pw_below_drewN | apply below_drew1) | exact HB.out)⟩⟩
  case round =>
    clear H'
    try clear c1
    try clear p2
    obtain ⟨x0_1, x7_1, x8_1, x14_1, rfl, rfl, rfl, HA, HK1, HO_0, HK, HB⟩ := hrel
    have hl0_1 := win_len hN_.out HO_0.out
    (try simp only [hl0_1])
    cases gk with
    | zero => exact absurd HA.out (by simp [limb_take.l0])
    | succ k1 =>
      have H := HA.out
      clear HA
      simp only [limb_take.l0] at H
      by_cases c5 : x14_1 < (l0.length : Int)
      · rw [if_pos c5] at H
        have c5b0 : decide (x14_1 < (l0.length : Int)) = true := decide_eq_true c5
        clear c5
        by_cases c6 : x14_1 < (l1.length : Int)
        · rw [if_pos c6] at H
          have c6b0 : decide (x14_1 < (l1.length : Int)) = true := decide_eq_true c6
          clear c6
          by_cases c7 : 0 ≤ x14_1
          · rw [if_pos c7] at H
            have c7b0 : decide (0 ≤ x14_1) = true := decide_eq_true c7
            clear c7
            by_cases c8 : x14_1 < (x0_1.length : Int)
            · rw [if_pos c8] at H
              have c8b0 : decide (x14_1 < (x0_1.length : Int)) = true := decide_eq_true c8
              clear c8
              obtain ⟨y219, hy219⟩ : ∃ y_ : List Int, y_ = (x0_1.set (x14_1 : Int).toNat ((wrap64 ((wrap64 ((wrap64 (rd x0_1 x14_1)) - ((IntKind.u64.wrap (x7_1 + (IntKind.u64.wrap (a2 * (IntKind.u64.wrap (rd l1 x14_1)))))) % 4294967296))) - x8_1)) % 4294967296)) := ⟨_, rfl⟩
              replace H : (if (wrap64 ((wrap64 ((wrap64 (rd x0_1 x14_1)) - ((IntKind.u64.wrap (x7_1 + (IntKind.u64.wrap (a2 * (IntKind.u64.wrap (rd l1 x14_1)))))) % 4294967296))) - x8_1)) < 0 then (limb_take.l0 k1 y219 l1 a2 ((IntKind.u64.wrap (x7_1 + (IntKind.u64.wrap (a2 * (IntKind.u64.wrap (rd l1 x14_1)))))) / 4294967296) 1 (l0.length : Int) (wrap64 (x14_1 + 1))) else (limb_take.l0 k1 y219 l1 a2 ((IntKind.u64.wrap (x7_1 + (IntKind.u64.wrap (a2 * (IntKind.u64.wrap (rd l1 x14_1)))))) / 4294967296) 0 (l0.length : Int) (wrap64 (x14_1 + 1)))) = some (r1, r2) := by first | (rw [hy219]; with_reducible exact H) | (have H2_ := (Option.bind_some _ _).symm.trans H; rw [hy219]; with_reducible exact H2_) | (have H2_ := (Option.bind_some _ _).symm.trans H; with_reducible exact H2_) | with_reducible exact H | (rw [hy219]; exact H) | exact H
              have Ny219 := Aside0.mk hy219
              clear hy219
              by_cases c10 : (wrap64 ((wrap64 ((wrap64 (rd x0_1 x14_1)) - ((IntKind.u64.wrap (x7_1 + (IntKind.u64.wrap (a2 * (IntKind.u64.wrap (rd l1 x14_1)))))) % 4294967296))) - x8_1)) < 0
              · rw [if_pos c10] at H
                have c10b0 : decide ((wrap64 ((wrap64 ((wrap64 (rd x0_1 x14_1)) - ((IntKind.u64.wrap (x7_1 + (IntKind.u64.wrap (a2 * (IntKind.u64.wrap (rd l1 x14_1)))))) % 4294967296))) - x8_1)) < 0) = true := decide_eq_true c10
                clear c10
                have H' := Aside0.mk H
                clear H
                have p217 : 0 ≤ (x14_1 : Int) := of_decide_eq_true (by first | (with_reducible assumption) | assumption)
                have q217 : x14_1 < (l1.length : Int) := of_decide_eq_true (by first | (with_reducible assumption) | assumption)
                obtain ⟨ad217, e217, hx217_0⟩ := Kd.at_int (Kd.C_kept_now HR1.out HK.out) x14_1 p217 q217
                cases e217
                replace p217 := eq_true p217
                replace q217 := eq_true q217
                have p218 : 0 ≤ (x14_1 : Int) := of_decide_eq_true (by first | (with_reducible assumption) | assumption)
                have q218 : x14_1 < (x0_1.length : Int) := of_decide_eq_true (by first | (with_reducible assumption) | assumption)
                have hx218_0 := (win_cell HO_0.out x14_1 p218 q218).1
                replace p218 := eq_true p218
                replace q218 := eq_true q218
                have p9 : 0 ≤ (x14_1 : Int) := of_decide_eq_true (by first | (with_reducible assumption) | assumption)
                have q9 : (x14_1 : Int) < ((x0_1.length : Int) : Int) := of_decide_eq_true (by first | (with_reducible assumption) | assumption)
                have GB9 := Aside0.mk (win_ge HO_0.out)
                (first | simp only [add_plain] at hx218_0 | skip)
                obtain ⟨hx9_0, hf9_0⟩ := win_cell HO_0.out x14_1 p9 q9
                replace p9 := eq_true p9
                replace q9 := eq_true q9
                have HP11 := win_put HO_0.out x14_1 (of_decide_eq_true (by first | (with_reducible assumption) | assumption)) (of_decide_eq_true (by first | (with_reducible assumption) | assumption)) ((wrap64 ((wrap64 ((wrap64 (rd x0_1 x14_1)) - ((IntKind.u64.wrap (x7_1 + (IntKind.u64.wrap (a2 * (IntKind.u64.wrap (rd l1 x14_1)))))) % 4294967296))) - x8_1)) % 4294967296)
                go_wp2_with (first | ((with_reducible refine gate_store (t := 59) (p := 46) rfl ?_); refine store_event (t := 59) (p := 46) (v := ?vo_w12) (w1 := (wr.setCell ⟨g_, pre_.length + (x14_1 : Int).toNat, none⟩ (.int .u32 ((wrap64 ((wrap64 ((wrap64 (rd x0_1 x14_1)) - ((IntKind.u64.wrap (x7_1 + (IntKind.u64.wrap (a2 * (IntKind.u64.wrap (rd l1 x14_1)))))) % 4294967296))) - x8_1)) % 4294967296)))) ?hg ?ho ?hn ?hr ?_; (case ho => rfl); (case hg => rfl); (case hn => rfl); (case hr => first | (go_simp; done) | (go_simp; rfl)); intro w12 hw; have hg : wr.grownBy w12 (some g_) := (by rw [hw]; exact HP11.2); have hp_ : Kd.R (Kd.int .u32) 59 w12 w0.heap.size (fun k_ => (P0_ k_ ∨ w.heap.size ≤ k_)) (.slice (some ⟨g_, 0, none⟩) N_ CAP_) (pre_ ++ y219 ++ post_) := (by rw [hw, Ny219.out]; exact HP11.1); clear HP11; have n0_ := Aside0.mk (hp_); have n1_ := Aside0.mk ((by rw [hw]; exact below_set (HB.out) GB9.out : Below w0.heap.size w0 w12)); have n2_ := Aside0.mk (Kept.of_grown (S := (fun k_ => P0_ k_)) hg (by repeat (first | (with_reducible first | exact HK.out | apply Kept.alloc | apply Kept.drewN | apply Kept.drew) | exact HK.out)) (fun k_ e_ => (HO_0.out.1 k_ e_))); clear HO_0; clear HB; clear HK; have HO_0 := n0_; have HB := n1_; have HK := n2_; clear n0_ n1_ n2_; clear hg hw hp_))
                (try simp only [← hl0_1])
                go_roundg k1
                case measure => have := HK1.out; omega
                case rel => exact ⟨(y219), ((IntKind.u64.wrap (x7_1 + (IntKind.u64.wrap (a2 * (IntKind.u64.wrap (rd l1 x14_1)))))) / 4294967296), (1), (wrap64 (x14_1 + 1)), (by first | rfl | (simp; done) | (simp [*]; done)), (by first | rfl | (simp; done) | (simp [*]; done)), (by first | rfl | (simp; done) | (simp [*]; done)), H', ⟨by have := HK1.out; omega⟩, ⟨by (try simp only [hl0_1]); (with_reducible repeat (first | apply Kd.R_alloc | apply Kd.R_drewN | apply Kd.R_drew)); exact HO_0.out⟩, ⟨by repeat (first | (with_reducible first | exact HK.out | apply Kept.alloc | apply Kept.drewN | apply Kept.drew) | exact HK.out)⟩, ⟨by repeat (first | (with_reducible first | exact HB.out | apply below_alloc | apply pw_below_drewN | apply below_drew1) | exact HB.out)⟩⟩
              · rw [if_neg c10] at H
                have c10b0 : decide ((wrap64 ((wrap64 ((wrap64 (rd x0_1 x14_1)) - ((IntKind.u64.wrap (x7_1 + (IntKind.u64.wrap (a2 * (IntKind.u64.wrap (rd l1 x14_1)))))) % 4294967296))) - x8_1)) < 0) = false := decide_eq_false c10
                clear c10
                have H' := Aside0.mk H
                clear H
                have p217 : 0 ≤ (x14_1 : Int) := of_decide_eq_true (by first | (with_reducible assumption) | assumption)
                have q217 : x14_1 < (l1.length : Int) := of_decide_eq_true (by first | (with_reducible assumption) | assumption)
                obtain ⟨ad217, e217, hx217_0⟩ := Kd.at_int (Kd.C_kept_now HR1.out HK.out) x14_1 p217 q217
                cases e217
                replace p217 := eq_true p217
                replace q217 := eq_true q217
                have p218 : 0 ≤ (x14_1 : Int) := of_decide_eq_true (by first | (with_reducible assumption) | assumption)
                have q218 : x14_1 < (x0_1.length : Int) := of_decide_eq_true (by first | (with_reducible assumption) | assumption)
                have hx218_0 := (win_cell HO_0.out x14_1 p218 q218).1
                replace p218 := eq_true p218
                replace q218 := eq_true q218
                have p9 : 0 ≤ (x14_1 : Int) := of_decide_eq_true (by first | (with_reducible assumption) | assumption)
                have q9 : (x14_1 : Int) < ((x0_1.length : Int) : Int) := of_decide_eq_true (by first | (with_reducible assumption) | assumption)
                have GB9 := Aside0.mk (win_ge HO_0.out)
                (first | simp only [add_plain] at hx218_0 | skip)
                obtain ⟨hx9_0, hf9_0⟩ := win_cell HO_0.out x14_1 p9 q9
                replace p9 := eq_true p9
                replace q9 := eq_true q9
                have HP13 := win_put HO_0.out x14_1 (of_decide_eq_true (by first | (with_reducible assumption) | assumption)) (of_decide_eq_true (by first | (with_reducible assumption) | assumption)) ((wrap64 ((wrap64 ((wrap64 (rd x0_1 x14_1)) - ((IntKind.u64.wrap (x7_1 + (IntKind.u64.wrap (a2 * (IntKind.u64.wrap (rd l1 x14_1)))))) % 4294967296))) - x8_1)) % 4294967296)
                go_wp2_with (first | ((with_reducible refine gate_store (t := 59) (p := 46) rfl ?_); refine store_event (t := 59) (p := 46) (v := ?vo_w14) (w1 := (wr.setCell ⟨g_, pre_.length + (x14_1 : Int).toNat, none⟩ (.int .u32 ((wrap64 ((wrap64 ((wrap64 (rd x0_1 x14_1)) - ((IntKind.u64.wrap (x7_1 + (IntKind.u64.wrap (a2 * (IntKind.u64.wrap (rd l1 x14_1)))))) % 4294967296))) - x8_1)) % 4294967296)))) ?hg ?ho ?hn ?hr ?_; (case ho => rfl); (case hg => rfl); (case hn => rfl); (case hr => first | (go_simp; done) | (go_simp; rfl)); intro w14 hw; have hg : wr.grownBy w14 (some g_) := (by rw [hw]; exact HP13.2); have hp_ : Kd.R (Kd.int .u32) 59 w14 w0.heap.size (fun k_ => (P0_ k_ ∨ w.heap.size ≤ k_)) (.slice (some ⟨g_, 0, none⟩) N_ CAP_) (pre_ ++ y219 ++ post_) := (by rw [hw, Ny219.out]; exact HP13.1); clear HP13; have n0_ := Aside0.mk (hp_); have n1_ := Aside0.mk ((by rw [hw]; exact below_set (HB.out) GB9.out : Below w0.heap.size w0 w14)); have n2_ := Aside0.mk (Kept.of_grown (S := (fun k_ => P0_ k_)) hg (by repeat (first | (with_reducible first | exact HK.out | apply Kept.alloc | apply Kept.drewN | apply Kept.drew) | exact HK.out)) (fun k_ e_ => (HO_0.out.1 k_ e_))); clear HO_0; clear HB; clear HK; have HO_0 := n0_; have HB := n1_; have HK := n2_; clear n0_ n1_ n2_; clear hg hw hp_))
                (try simp only [← hl0_1])
                go_roundg k1
                case measure => have := HK1.out; omega
                case rel => exact ⟨(y219), ((IntKind.u64.wrap (x7_1 + (IntKind.u64.wrap (a2 * (IntKind.u64.wrap (rd l1 x14_1)))))) / 4294967296), (0), (wrap64 (x14_1 + 1)), (by first | rfl | (simp; done) | (simp [*]; done)), (by first | rfl | (simp; done) | (simp [*]; done)), (by first | rfl | (simp; done) | (simp [*]; done)), H', ⟨by have := HK1.out; omega⟩, ⟨by (try simp only [hl0_1]); (with_reducible repeat (first | apply Kd.R_alloc | apply Kd.R_drewN | apply Kd.R_drew)); exact HO_0.out⟩, ⟨by repeat (first | (with_reducible first | exact HK.out | apply Kept.alloc | apply Kept.drewN | apply Kept.drew) | exact HK.out)⟩, ⟨by repeat (first | (with_reducible first | exact HB.out | apply below_alloc | apply pw_below_drewN | apply below_drew1) | exact HB.out)⟩⟩
            · rw [if_neg c8] at H
              exact absurd H (by simp)
          · rw [if_neg c7] at H
            exact absurd H (by simp)
        · rw [if_neg c6] at H
          have c6b0 : decide (x14_1 < (l1.length : Int)) = false := decide_eq_false c6
          (try simp only [hl0_1] at c6b0)
          clear c6
          by_cases c15 : 0 ≤ x14_1
          · rw [if_pos c15] at H
            have c15b0 : decide (0 ≤ x14_1) = true := decide_eq_true c15
            clear c15
            by_cases c16 : x14_1 < (x0_1.length : Int)
            · rw [if_pos c16] at H
              have c16b0 : decide (x14_1 < (x0_1.length : Int)) = true := decide_eq_true c16
              clear c16
              obtain ⟨y221, hy221⟩ : ∃ y_ : List Int, y_ = (x0_1.set (x14_1 : Int).toNat ((wrap64 ((wrap64 ((wrap64 (rd x0_1 x14_1)) - ((x7_1) % 4294967296))) - x8_1)) % 4294967296)) := ⟨_, rfl⟩
              replace H : (if (wrap64 ((wrap64 ((wrap64 (rd x0_1 x14_1)) - ((x7_1) % 4294967296))) - x8_1)) < 0 then (limb_take.l0 k1 y221 l1 a2 (x7_1 / 4294967296) 1 (l0.length : Int) (wrap64 (x14_1 + 1))) else (limb_take.l0 k1 y221 l1 a2 (x7_1 / 4294967296) 0 (l0.length : Int) (wrap64 (x14_1 + 1)))) = some (r1, r2) := by first | (rw [hy221]; with_reducible exact H) | (have H2_ := (Option.bind_some _ _).symm.trans H; rw [hy221]; with_reducible exact H2_) | (have H2_ := (Option.bind_some _ _).symm.trans H; with_reducible exact H2_) | with_reducible exact H | (rw [hy221]; exact H) | exact H
              have Ny221 := Aside0.mk hy221
              clear hy221
              by_cases c18 : (wrap64 ((wrap64 ((wrap64 (rd x0_1 x14_1)) - ((x7_1) % 4294967296))) - x8_1)) < 0
              · rw [if_pos c18] at H
                have c18b0 : decide ((wrap64 ((wrap64 ((wrap64 (rd x0_1 x14_1)) - ((x7_1) % 4294967296))) - x8_1)) < 0) = true := decide_eq_true c18
                clear c18
                have H' := Aside0.mk H
                clear H
                have p220 : 0 ≤ (x14_1 : Int) := of_decide_eq_true (by first | (with_reducible assumption) | assumption)
                have q220 : x14_1 < (x0_1.length : Int) := of_decide_eq_true (by first | (with_reducible assumption) | assumption)
                have hx220_0 := (win_cell HO_0.out x14_1 p220 q220).1
                replace p220 := eq_true p220
                replace q220 := eq_true q220
                have p17 : 0 ≤ (x14_1 : Int) := of_decide_eq_true (by first | (with_reducible assumption) | assumption)
                have q17 : (x14_1 : Int) < ((x0_1.length : Int) : Int) := of_decide_eq_true (by first | (with_reducible assumption) | assumption)
                have GB17 := Aside0.mk (win_ge HO_0.out)
                (first | simp only [add_plain] at hx220_0 | skip)
                obtain ⟨hx17_0, hf17_0⟩ := win_cell HO_0.out x14_1 p17 q17
                replace p17 := eq_true p17
                replace q17 := eq_true q17
                have HP19 := win_put HO_0.out x14_1 (of_decide_eq_true (by first | (with_reducible assumption) | assumption)) (of_decide_eq_true (by first | (with_reducible assumption) | assumption)) ((wrap64 ((wrap64 ((wrap64 (rd x0_1 x14_1)) - ((x7_1) % 4294967296))) - x8_1)) % 4294967296)
                go_wp2_with (first | ((with_reducible refine gate_store (t := 59) (p := 46) rfl ?_); refine store_event (t := 59) (p := 46) (v := ?vo_w20) (w1 := (wr.setCell ⟨g_, pre_.length + (x14_1 : Int).toNat, none⟩ (.int .u32 ((wrap64 ((wrap64 ((wrap64 (rd x0_1 x14_1)) - ((x7_1) % 4294967296))) - x8_1)) % 4294967296)))) ?hg ?ho ?hn ?hr ?_; (case ho => rfl); (case hg => rfl); (case hn => rfl); (case hr => first | (go_simp; done) | (go_simp; rfl)); intro w20 hw; have hg : wr.grownBy w20 (some g_) := (by rw [hw]; exact HP19.2); have hp_ : Kd.R (Kd.int .u32) 59 w20 w0.heap.size (fun k_ => (P0_ k_ ∨ w.heap.size ≤ k_)) (.slice (some ⟨g_, 0, none⟩) N_ CAP_) (pre_ ++ y221 ++ post_) := (by rw [hw, Ny221.out]; exact HP19.1); clear HP19; have n0_ := Aside0.mk (hp_); have n1_ := Aside0.mk ((by rw [hw]; exact below_set (HB.out) GB17.out : Below w0.heap.size w0 w20)); have n2_ := Aside0.mk (Kept.of_grown (S := (fun k_ => P0_ k_)) hg (by repeat (first | (with_reducible first | exact HK.out | apply Kept.alloc | apply Kept.drewN | apply Kept.drew) | exact HK.out)) (fun k_ e_ => (HO_0.out.1 k_ e_))); clear HO_0; clear HB; clear HK; have HO_0 := n0_; have HB := n1_; have HK := n2_; clear n0_ n1_ n2_; clear hg hw hp_))
                (try simp only [← hl0_1])
                go_roundg k1
                case measure => have := HK1.out; omega
                case rel => exact ⟨(y221), (x7_1 / 4294967296), (1), (wrap64 (x14_1 + 1)), (by first | rfl | (simp; done) | (simp [*]; done)), (by first | rfl | (simp; done) | (simp [*]; done)), (by first | rfl | (simp; done) | (simp [*]; done)), H', ⟨by have := HK1.out; omega⟩, ⟨by (try simp only [hl0_1]); (with_reducible repeat (first | apply Kd.R_alloc | apply Kd.R_drewN | apply Kd.R_drew)); exact HO_0.out⟩, ⟨by repeat (first | (with_reducible first | exact HK.out | apply Kept.alloc | apply Kept.drewN | apply Kept.drew) | exact HK.out)⟩, ⟨by repeat (first | (with_reducible first | exact HB.out | apply below_alloc | apply pw_below_drewN | apply below_drew1) | exact HB.out)⟩⟩
              · rw [if_neg c18] at H
                have c18b0 : decide ((wrap64 ((wrap64 ((wrap64 (rd x0_1 x14_1)) - ((x7_1) % 4294967296))) - x8_1)) < 0) = false := decide_eq_false c18
                clear c18
                have H' := Aside0.mk H
                clear H
                have p220 : 0 ≤ (x14_1 : Int) := of_decide_eq_true (by first | (with_reducible assumption) | assumption)
                have q220 : x14_1 < (x0_1.length : Int) := of_decide_eq_true (by first | (with_reducible assumption) | assumption)
                have hx220_0 := (win_cell HO_0.out x14_1 p220 q220).1
                replace p220 := eq_true p220
                replace q220 := eq_true q220
                have p17 : 0 ≤ (x14_1 : Int) := of_decide_eq_true (by first | (with_reducible assumption) | assumption)
                have q17 : (x14_1 : Int) < ((x0_1.length : Int) : Int) := of_decide_eq_true (by first | (with_reducible assumption) | assumption)
                have GB17 := Aside0.mk (win_ge HO_0.out)
                (first | simp only [add_plain] at hx220_0 | skip)
                obtain ⟨hx17_0, hf17_0⟩ := win_cell HO_0.out x14_1 p17 q17
                replace p17 := eq_true p17
                replace q17 := eq_true q17
                have HP21 := win_put HO_0.out x14_1 (of_decide_eq_true (by first | (with_reducible assumption) | assumption)) (of_decide_eq_true (by first | (with_reducible assumption) | assumption)) ((wrap64 ((wrap64 ((wrap64 (rd x0_1 x14_1)) - ((x7_1) % 4294967296))) - x8_1)) % 4294967296)
                go_wp2_with (first | ((with_reducible refine gate_store (t := 59) (p := 46) rfl ?_); refine store_event (t := 59) (p := 46) (v := ?vo_w22) (w1 := (wr.setCell ⟨g_, pre_.length + (x14_1 : Int).toNat, none⟩ (.int .u32 ((wrap64 ((wrap64 ((wrap64 (rd x0_1 x14_1)) - ((x7_1) % 4294967296))) - x8_1)) % 4294967296)))) ?hg ?ho ?hn ?hr ?_; (case ho => rfl); (case hg => rfl); (case hn => rfl); (case hr => first | (go_simp; done) | (go_simp; rfl)); intro w22 hw; have hg : wr.grownBy w22 (some g_) := (by rw [hw]; exact HP21.2); have hp_ : Kd.R (Kd.int .u32) 59 w22 w0.heap.size (fun k_ => (P0_ k_ ∨ w.heap.size ≤ k_)) (.slice (some ⟨g_, 0, none⟩) N_ CAP_) (pre_ ++ y221 ++ post_) := (by rw [hw, Ny221.out]; exact HP21.1); clear HP21; have n0_ := Aside0.mk (hp_); have n1_ := Aside0.mk ((by rw [hw]; exact below_set (HB.out) GB17.out : Below w0.heap.size w0 w22)); have n2_ := Aside0.mk (Kept.of_grown (S := (fun k_ => P0_ k_)) hg (by repeat (first | (with_reducible first | exact HK.out | apply Kept.alloc | apply Kept.drewN | apply Kept.drew) | exact HK.out)) (fun k_ e_ => (HO_0.out.1 k_ e_))); clear HO_0; clear HB; clear HK; have HO_0 := n0_; have HB := n1_; have HK := n2_; clear n0_ n1_ n2_; clear hg hw hp_))
                (try simp only [← hl0_1])
                go_roundg k1
                case measure => have := HK1.out; omega
                case rel => exact ⟨(y221), (x7_1 / 4294967296), (0), (wrap64 (x14_1 + 1)), (by first | rfl | (simp; done) | (simp [*]; done)), (by first | rfl | (simp; done) | (simp [*]; done)), (by first | rfl | (simp; done) | (simp [*]; done)), H', ⟨by have := HK1.out; omega⟩, ⟨by (try simp only [hl0_1]); (with_reducible repeat (first | apply Kd.R_alloc | apply Kd.R_drewN | apply Kd.R_drew)); exact HO_0.out⟩, ⟨by repeat (first | (with_reducible first | exact HK.out | apply Kept.alloc | apply Kept.drewN | apply Kept.drew) | exact HK.out)⟩, ⟨by repeat (first | (with_reducible first | exact HB.out | apply below_alloc | apply pw_below_drewN | apply below_drew1) | exact HB.out)⟩⟩
            · rw [if_neg c16] at H
              exact absurd H (by simp)
          · rw [if_neg c15] at H
            exact absurd H (by simp)
      · rw [if_neg c5] at H
        have c5b0 : decide (x14_1 < (l0.length : Int)) = false := decide_eq_false c5
        (try simp only [hl0_1] at c5b0)
        clear c5
        simp only [Option.some.injEq, Prod.mk.injEq] at H
        obtain ⟨rfl, rfl⟩ := H
        go_wp2
        go_ret
        exact ⟨by first | rfl | (simp [errW_none, errW_some] <;> rfl) | (simp [*, errW_none, errW_some] <;> rfl), (by first | exact (by (with_reducible repeat (first | apply Kd.R_alloc | apply Kd.R_drewN | apply Kd.R_drew)); exact HO_0.out) | ((try simp only [hl0_1]); (try simp only [← List.append_assoc]); exact (by (with_reducible repeat (first | apply Kd.R_alloc | apply Kd.R_drewN | apply Kd.R_drew)); exact HO_0.out))), by repeat (first | (with_reducible first | exact HB.out | apply below_alloc | apply pw_below_drewN | apply below_drew1) | exact HB.out), by repeat (first | (with_reducible first | exact HK.out | apply Kept.alloc | apply Kept.drewN | apply Kept.drew) | exact HK.out)⟩

end Go.Proofs.Ytapmhmkekkhhpaa.PLimbKeeps
