/- The walk of the law LimbKeeps: what its function does. No conditions. -/
import Derived.Test.YtapmhmkekkhhpaaPLimbKeepsx
import Derived.Laws.CopyOwn
import Derived.LoopN
namespace Go.Proofs.Ytapmhmkekkhhpaa.PLimbKeeps
open Go.RowKit Go.Proofs.YtapmhmkekkhhpaaW.PrintWords Go.Proofs.YtapmhmkekkhhpaaW.PrintLast Go.Proofs.YtapmhmkekkhhpaaW.PrintMore
attribute [local go_sem] max2_int min2_int max_two min_two max_three min_three max_four min_four   -- for this text's walks alone
set_option linter.unusedVariables false
set_option linter.unusedSimpArgs false
def ZS (n : Nat) : List Value := List.replicate n (.int .u32 0)
theorem mk_run (W : World) (n : Nat) (hn : n ≤ 30) (c : Int) (hc : c = (n : Int) + 8) : (Instr.makeSlice 38 (.int .i64 (n : Int)) (.int .i64 c)).run Try.prog W = .ok (.slice (some ⟨W.heap.size, 0, none⟩) n (n + 8)) (W.alloc (.cells (ZS (n + 8)).toArray 59)) := by
  subst hc
  obtain ⟨i0, hi, hzz⟩ := Option.map_eq_some_iff.1 info59
  simp only [Prod.mk.injEq] at hzz
  obtain ⟨hz0, hz1, hz2⟩ := hzz
  have h := run_make (P := Try.prog) W 38 59 i0 (.int .u32 0) Try.underlying38 hi hz0 .i64 .i64 (n : Int) ((n : Int) + 8) (by omega) (by omega) (by rw [hz2]; omega) (by omega)
  have e1 : ((n : Int) + 8).toNat = n + 8 := by omega
  rw [e1, Int.toNat_natCast, hz1, Nat.mul_one] at h
  have e2 : madeCells (Value.int .u32 0).cells (n + 8) = (ZS (n + 8)).toArray := by
    have h2 := toList_madeCells_one (.int .u32 0) (n + 8)
    unfold ZS
    rw [← h2]
    rfl
  rw [e2] at h
  exact h
def Mk (w : World) (n0 n1 : Nat) (s5 s6 : Value) (W : World) : Prop :=
  ∃ g5 g6, s5 = .slice (some ⟨g5, 0, none⟩) n0 (n0 + 8) ∧ s6 = .slice (some ⟨g6, 0, none⟩) n1 (n1 + 8) ∧ Aside0 (Below w.heap.size w W) ∧ Aside0 (W.heap[g5]? = some (.cells (ZS (n0 + 8)).toArray 59 (0, 0))) ∧ Aside0 (W.heap[g6]? = some (.cells (ZS (n1 + 8)).toArray 59 (0, 0))) ∧ Aside0 (g5 ≠ g6) ∧ Aside0 (w.heap.size ≤ g5) ∧ Aside0 (w.heap.size ≤ g6)
theorem sz59 : (Try.prog.info? 59).map (·.size) = some 1 := by kernel_rfl
theorem mkA {w X : World} (n0 n1 g : Nat) (hg : X.heap.size = g) (hb : Below w.heap.size w X) : Mk w n0 n1 (.slice (some ⟨g, 0, none⟩) n0 (n0 + 8)) (.slice (some ⟨g + 1, 0, none⟩) n1 (n1 + 8)) ((X.alloc (.cells (ZS (n0 + 8)).toArray 59)).alloc (.cells (ZS (n1 + 8)).toArray 59)) := by
  subst hg
  have h := heap_alloc_new (X.alloc (.cells (ZS (n0 + 8)).toArray 59)) (.cells (ZS (n1 + 8)).toArray 59)
  rw [alloc_size] at h
  have h2 := hb.size
  exact ⟨_, _, rfl, rfl, ⟨bA_ (bA_ hb _) _⟩, ⟨blk_alloc (heap_alloc_new _ _) _⟩, ⟨h⟩, ⟨by omega⟩, ⟨h2⟩, ⟨by omega⟩⟩
theorem mkB {w X : World} (n0 n1 g : Nat) (hg : X.heap.size = g) (hb : Below w.heap.size w X) : Mk w n0 n1 (.slice (some ⟨g + 1, 0, none⟩) n0 (n0 + 8)) (.slice (some ⟨g, 0, none⟩) n1 (n1 + 8)) ((X.alloc (.cells (ZS (n1 + 8)).toArray 59)).alloc (.cells (ZS (n0 + 8)).toArray 59)) := by
  subst hg
  have h := heap_alloc_new (X.alloc (.cells (ZS (n1 + 8)).toArray 59)) (.cells (ZS (n0 + 8)).toArray 59)
  rw [alloc_size] at h
  have h2 := hb.size
  exact ⟨_, _, rfl, rfl, ⟨bA_ (bA_ hb _) _⟩, ⟨h⟩, ⟨blk_alloc (heap_alloc_new _ _) _⟩, ⟨by omega⟩, ⟨by omega⟩, ⟨h2⟩⟩
def XS (l : List Int) : List Value := l.map (.int .u32) ++ ZS 8
theorem rv_blk {W : World} {g : Nat} {l : List Int} (hl : l.length ≤ 30) (hk : W.heap[g]? = some (.cells (XS l).toArray 59 (0, 0))) : RV .u32 W (.slice (some ⟨g, 0, none⟩) l.length (l.length + 8)) l := by
  refine Kd.V_mk (by omega) (F_all (Kd.C_of_reads (d := (0 : Int)) (h1 := fun _ => rfl) ?_))
  refine ⟨rfl, by omega, fun _ => ⟨_, rfl, fun j hj => ?_⟩⟩
  have e : (⟨g, 0, none⟩ : Addr).add j = ⟨g, j, none⟩ := by unfold Addr.add; split <;> simp_all
  rw [e]
  refine (blk_cell hk j).trans ?_
  simp [XS, List.getElem?_append, hj, List.getD]
theorem splice_ZS (l : List Int) : splice (ZS (l.length + 8)) 0 (l.map (Value.int .u32)) = XS l := by
  simp [splice, XS, ZS]
theorem rv_cells {W : World} {A : Option Addr} {c : Nat} {l : List Int} (h : RV .u32 W (.slice A l.length c) l) (h0 : 0 < l.length) : ∃ ad, A = some ad ∧ ∀ j v, (l.map (Value.int .u32))[j]? = some v → W.cell? (ad.add j) = some v := by
  obtain ⟨ad, e, hc⟩ := (Kd.reads_of_C (d := (0 : Int)) h.C).2.2 h0
  refine ⟨ad, e, fun j v hv => ?_⟩
  have hj : j < l.length := by
    have := (List.getElem?_eq_some_iff.1 hv).1; simpa using this
  rw [hc j hj]
  simp [List.getElem?_map, List.getElem?_eq_getElem hj] at hv
  simp [List.getD, List.getElem?_eq_getElem hj, hv]
def Own1 (W : World) (B : Nat) (X : Option Addr) (s : List Int) : Prop :=
  0 < s.length → ∃ g cur m, X = some ⟨g, 0, none⟩ ∧ B ≤ g ∧ W.heap[g]? = some (.cells cur 59 (0, 0)) ∧ cur[0]? = some (.int .u32 m)
theorem own1 {W : World} {B : Nat} {ok : Nat → Prop} {X : Option Addr} {y : Nat} {s : List Int} (h : Kd.R (Kd.int .u32) 59 W B ok (.slice X s.length y) s) : Own1 W B X s := by
  intro h0
  obtain ⟨ad, e, hc⟩ := (Kd.reads_of_C (d := (0 : Int)) (Kd.R_reads' h).2.2).2.2 h0
  rcases (Kd.own_of_R h).2 with ⟨he, hz⟩ | ⟨g, cap, cur, he, hb, hk, _⟩
  · omega
  · injection he with e1 _ _
    subst e1
    injection e with e2
    subst e2
    have h1 := hc 0 h0
    have e3 : (⟨g, 0, none⟩ : Addr).add 0 = ⟨g, 0, none⟩ := by unfold Addr.add; split <;> simp_all
    rw [e3, blk_cell hk 0] at h1
    exact ⟨g, cur, _, rfl, hb, hk, h1⟩
theorem cut_cap (A : Option Addr) (n c : Nat) (hc : n ≤ c) (j : Int) (hj : j = c) : ∀ W : World, (Instr.slice 38 (.slice A n c) none (some (.int .i64 j)) none).run Try.prog W = .ok (.slice A c c) W := by
  intro W
  subst hj
  obtain ⟨i0, hi, hzz⟩ := Option.map_eq_some_iff.1 info59
  have hel : Try.prog.elem 38 = 59 := by simp [Program.elem, Try.underlying38]
  have hu : Try.prog.underlying 38 = some (.slice (Try.prog.elem 38)) := by rw [hel]; exact Try.underlying38
  have ha : (A.map fun x => x.add 0) = A := by cases A <;> simp [Addr.add]
  rw [run_slice_h W 38 A n c hu .i64 (c : Int) (by omega) (by omega), hel]
  simp [sizeOf, typeInfo, hi, sliced, Result.andThen, ha]
theorem at_x {W : World} {g : Nat} {l : List Int} (hl : l.length ≤ 30) (hk : W.heap[g]? = some (.cells (XS l).toArray 59 (0, 0))) (x : Int) (h0 : 0 ≤ x) (h1 : x < (l.length : Int)) : W.cell? ⟨g, x.toNat, none⟩ = some (.int .u32 (rd l x)) := by
  obtain ⟨ad, e, hx⟩ := Kd.at_int (rv_blk hl hk).C x h0 h1
  cases e
  have e3 : (⟨g, 0, none⟩ : Addr).add x.toNat = ⟨g, x.toNat, none⟩ := by unfold Addr.add; split <;> simp_all
  rw [e3] at hx
  exact hx
theorem at_8 {W : World} {g : Nat} {l : List Int} (hk : W.heap[g]? = some (.cells (XS l).toArray 59 (0, 0))) (x : Int) (h0 : 0 ≤ x) (h1 : x < 8) (j : Int) (hj : j = (l.length : Int) + x) : W.cell? ⟨g, j.toNat, none⟩ = some (.int .u32 0) := by
  subst hj
  refine (blk_cell hk _).trans ?_
  have e : ((l.length : Int) + x).toNat = l.length + x.toNat := by omega
  have h2 : x.toNat < 8 := by omega
  rw [e]
  have h3 : (XS l)[l.length + x.toNat]? = some (.int .u32 0) := by
    unfold XS
    rw [List.getElem?_append_right (by simp)]
    simp only [List.length_map, Nat.add_sub_cancel_left]
    unfold ZS
    rw [List.getElem?_replicate, if_pos h2]
  simpa using h3

def psephoslaw01_LimbKeeps.f (k : Nat) (l0 : List Int) (l1 : List Int) : Option (Bool) := (psephoslaw01_awake.f k).bind fun t150 => (if t150 = true then ((psephoslaw01_few.f k (([l0, l1] : List (List Int)))).bind fun t154 => (if t154 = true then (if (l0.length : Int) > 30 then ((psephoslaw01_awake.f k).bind fun t155 => (some t155)) else (if (l1.length : Int) > 30 then ((psephoslaw01_awake.f k).bind fun t156 => (some t156)) else ((limb_Add.f k l0 l1).bind fun _ => (limb_Sub.f k l0 l1).bind fun _ => (limb_Mul.f k l0 l1).bind fun _ => (limb_Gcd.f k l0 l1).bind fun _ => (limb_DivMod.f k l0 l1).bind fun _ => some true))) else ((psephoslaw01_awake.f k).bind fun t157 => (some t157)))) else ((psephoslaw01_awake.f k).bind fun t158 => (some t158)))
theorem psephoslaw01_LimbKeeps.mono : ∀ a0 a1 k, LeO (psephoslaw01_LimbKeeps.f k a0 a1) (psephoslaw01_LimbKeeps.f (k + 1) a0 a1) := by
  intro a0 a1 k
  unfold psephoslaw01_LimbKeeps.f
  repeat' first
      | (with_reducible exact limb_Add.mono _ _ _)
      | (with_reducible exact limb_Sub.mono _ _ _)
      | (with_reducible exact limb_Mul.mono _ _ _)
      | (with_reducible exact limb_Gcd.mono _ _ _)
      | (with_reducible exact limb_DivMod.mono _ _ _)
      | (with_reducible exact psephoslaw01_awake.mono _)
      | (with_reducible exact psephoslaw01_few.mono _ _)
      | (with_reducible exact LeO.refl _)
      | (with_reducible exact LeO.none _)
      | (with_reducible refine LeO.ite ?_ ?_)
      | (with_reducible refine LeO.bind ?_ (fun _ => ?_))
      | exact psephoslaw01_awake.mono _
      | exact psephoslaw01_few.mono _ _
      | exact LeO.none _
      | refine LeO.ite ?_ ?_
      | refine LeO.bind ?_ (fun _ => ?_)
set_option maxHeartbeats 8000000 in
set_option maxRecDepth 100000 in
theorem psephoslaw01_LimbKeeps.calls (k : Nat) (P0_ : Nat → Prop) (A0 : Option Addr) (c0 : Nat) (l0 : List Int) (P1_ : Nat → Prop) (A1 : Option Addr) (c1 : Nat) (l1 : List Int) (r : Bool) (w : World) (hs0 : Kd.V (Kd.int .u32) 59 w w.heap.size (fun k_ => P0_ k_) (.slice A0 l0.length c0) l0) (hs1 : Kd.V (Kd.int .u32) 59 w w.heap.size (fun k_ => P1_ k_) (.slice A1 l1.length c1) l1) (h : psephoslaw01_LimbKeeps.f k l0 l1 = some r) :
    Calls Try.prog 12 #[.slice A0 l0.length c0, .slice A1 l1.length c1] w fun e w' => e = .returned (.bool r) ∧ Below w.heap.size w w' := by
  have HO0 := Aside0.mk (show Kd.V (Kd.int .u32) 59 w w.heap.size (fun k_ => ((P0_ k_ ∨ P1_ k_) ∨ w.heap.size ≤ k_)) (.slice A0 l0.length c0) l0 from Kd.V_mono hs0 (fun k_ hk => .inl (.inl hk)))
  have HO1 := Aside0.mk (show Kd.V (Kd.int .u32) 59 w w.heap.size (fun k_ => ((P0_ k_ ∨ P1_ k_) ∨ w.heap.size ≤ k_)) (.slice A1 l1.length c1) l1 from Kd.V_mono hs1 (fun k_ hk => .inl (.inr hk)))
  have RA := asd (RV.of_V hs0)
  have RB := asd (RV.of_V hs1)
  have HB := Aside0.mk (Below.refl w.heap.size w)
  have H : ((psephoslaw01_awake.f k).bind fun t150 => (if t150 = true then ((psephoslaw01_few.f k (([l0, l1] : List (List Int)))).bind fun t154 => (if t154 = true then (if (l0.length : Int) > 30 then ((psephoslaw01_awake.f k).bind fun t155 => (some t155)) else (if (l1.length : Int) > 30 then ((psephoslaw01_awake.f k).bind fun t156 => (some t156)) else ((limb_Add.f k l0 l1).bind fun _ => (limb_Sub.f k l0 l1).bind fun _ => (limb_Mul.f k l0 l1).bind fun _ => (limb_Gcd.f k l0 l1).bind fun _ => (limb_DivMod.f k l0 l1).bind fun _ => some true))) else ((psephoslaw01_awake.f k).bind fun t157 => (some t157)))) else ((psephoslaw01_awake.f k).bind fun t158 => (some t158)))) = some r := h
  clear h
  replace H := Option.bind_eq_some_iff.mp H
  obtain ⟨t150, A30, H⟩ := H
  replace H : (if t150 = true then ((psephoslaw01_few.f k (([l0, l1] : List (List Int)))).bind fun t154 => (if t154 = true then (if (l0.length : Int) > 30 then ((psephoslaw01_awake.f k).bind fun t155 => (some t155)) else (if (l1.length : Int) > 30 then ((psephoslaw01_awake.f k).bind fun t156 => (some t156)) else ((limb_Add.f k l0 l1).bind fun _ => (limb_Sub.f k l0 l1).bind fun _ => (limb_Mul.f k l0 l1).bind fun _ => (limb_Gcd.f k l0 l1).bind fun _ => (limb_DivMod.f k l0 l1).bind fun _ => some true))) else ((psephoslaw01_awake.f k).bind fun t157 => (some t157)))) else ((psephoslaw01_awake.f k).bind fun t158 => (some t158))) = some r := H
  have A3 := Aside0.mk A30
  clear A30
  by_cases c4 : t150 = true
  · subst c4
    have H1 : ((psephoslaw01_few.f k (([l0, l1] : List (List Int)))).bind fun t154 => (if t154 = true then (if (l0.length : Int) > 30 then ((psephoslaw01_awake.f k).bind fun t155 => (some t155)) else (if (l1.length : Int) > 30 then ((psephoslaw01_awake.f k).bind fun t156 => (some t156)) else ((limb_Add.f k l0 l1).bind fun _ => (limb_Sub.f k l0 l1).bind fun _ => (limb_Mul.f k l0 l1).bind fun _ => (limb_Gcd.f k l0 l1).bind fun _ => (limb_DivMod.f k l0 l1).bind fun _ => some true))) else ((psephoslaw01_awake.f k).bind fun t157 => (some t157)))) = some r := by rw [if_pos rfl] at H; exact H
    clear H
    have H := H1
    clear H1
    obtain ⟨y151, hy151⟩ : ∃ y_ : List (List Int), y_ = (([l0, l1] : List (List Int))) := ⟨_, rfl⟩
    replace H : ((psephoslaw01_few.f k y151).bind fun t154 => (if t154 = true then (if (l0.length : Int) > 30 then ((psephoslaw01_awake.f k).bind fun t155 => (some t155)) else (if (l1.length : Int) > 30 then ((psephoslaw01_awake.f k).bind fun t156 => (some t156)) else ((limb_Add.f k l0 l1).bind fun _ => (limb_Sub.f k l0 l1).bind fun _ => (limb_Mul.f k l0 l1).bind fun _ => (limb_Gcd.f k l0 l1).bind fun _ => (limb_DivMod.f k l0 l1).bind fun _ => some true))) else ((psephoslaw01_awake.f k).bind fun t157 => (some t157)))) = some r := by first | (rw [hy151]; with_reducible exact H) | (have H2_ := (Option.bind_some _ _).symm.trans H; rw [hy151]; with_reducible exact H2_) | (have H2_ := (Option.bind_some _ _).symm.trans H; with_reducible exact H2_) | with_reducible exact H | (rw [hy151]; exact H) | exact H
    have Ny151 := Aside0.mk hy151
    clear hy151
    replace H := Option.bind_eq_some_iff.mp H
    obtain ⟨t154, A50, H⟩ := H
    replace H : (if t154 = true then (if (l0.length : Int) > 30 then ((psephoslaw01_awake.f k).bind fun t155 => (some t155)) else (if (l1.length : Int) > 30 then ((psephoslaw01_awake.f k).bind fun t156 => (some t156)) else ((limb_Add.f k l0 l1).bind fun _ => (limb_Sub.f k l0 l1).bind fun _ => (limb_Mul.f k l0 l1).bind fun _ => (limb_Gcd.f k l0 l1).bind fun _ => (limb_DivMod.f k l0 l1).bind fun _ => some true))) else ((psephoslaw01_awake.f k).bind fun t157 => (some t157))) = some r := H
    have A5 := Aside0.mk A50
    clear A50
    by_cases c6 : t154 = true
    · subst c6
      have H1 : (if (l0.length : Int) > 30 then ((psephoslaw01_awake.f k).bind fun t155 => (some t155)) else (if (l1.length : Int) > 30 then ((psephoslaw01_awake.f k).bind fun t156 => (some t156)) else ((limb_Add.f k l0 l1).bind fun _ => (limb_Sub.f k l0 l1).bind fun _ => (limb_Mul.f k l0 l1).bind fun _ => (limb_Gcd.f k l0 l1).bind fun _ => (limb_DivMod.f k l0 l1).bind fun _ => some true))) = some r := by rw [if_pos rfl] at H; exact H
      clear H
      have H := H1
      clear H1
      by_cases c7 : (l0.length : Int) > 30
      · rw [if_pos c7] at H
        have c7b0 : decide (30 < (l0.length : Int)) = true := decide_eq_true c7
        have c7b1 : decide (30 < l0.length) = true := decide_eq_true (by omega)
        clear c7
        replace H := Option.bind_eq_some_iff.mp H
        obtain ⟨t155, A80, H⟩ := H
        replace H : (some t155) = some r := H
        have A8 := Aside0.mk A80
        clear A80
        obtain rfl := Option.some.inj H
        go_enter Try.func12, Try.ntmps12
        go_wp2_with (first | ((with_reducible refine gate_callee (f := 21) rfl ?_); refine goesL_ (some 17) rfl rfl Try.func21 (by kernel_rfl) rfl #[] rfl (by (try simp only [List.map_toArray, List.map_cons, List.map_nil]); first | done | rfl | (simp only [List.length_drop, List.length_take]; rfl)) ?_; (with_reducible refine (psephoslaw01_awake.calls k  true _ A3.out).mono ?_); rintro e w9 ⟨rfl, hb⟩; refine ⟨_, rfl, ?_⟩; have n0_ := Aside0.mk (Kd.V_below (by (with_reducible repeat (first | apply Kd.V_alloc | apply Kd.V_drewN | apply Kd.V_drew)); exact HO0.out) hb); have n1_ := Aside0.mk (Kd.V_below (by (with_reducible repeat (first | apply Kd.V_alloc | apply Kd.V_drewN | apply Kd.V_drew)); exact HO1.out) hb); have n2_ := Aside0.mk (below_step (by repeat (first | (with_reducible first | exact HB.out | apply below_alloc | apply pw_below_drewN | apply below_drew1) | exact HB.out)) hb); clear HO0; clear HO1; clear HB; have HO0 := n0_; have HO1 := n1_; have HB := n2_; clear n0_ n1_ n2_; (try clear hb); (try clear hb2); (try clear hk); (try clear hi)) | ((with_reducible refine gate_dst (N := 22) rfl ?_); (try (refine gate_guard (by rfl) ?_; dsimp only)); refine Kd.N_lit (Kd.slice 59 (Kd.int .u32)) _ 30 ?hg (N' := 22) ?hd (xs := ([l0, l1] : List (List Int))) (inner := [.slice A0 l0.length c0, .slice A1 l1.length c1]) (ok := (fun k_ => ((P0_ k_ ∨ P1_ k_) ∨ w.heap.size ≤ k_))) (okp := (fun k_ => ((P0_ k_ ∨ P1_ k_) ∨ w.heap.size ≤ k_))) ?hr ?hp (fun _ hk => hk) ((show ∀ k_, w9.heap.size ≤ k_ → (fun k_ => ((P0_ k_ ∨ P1_ k_) ∨ w.heap.size ≤ k_)) k_ from fun k_ hk => (.inr (Nat.le_trans (below_size (by repeat (first | (with_reducible first | exact HB.out | apply below_alloc | apply pw_below_drewN | apply below_drew1) | exact HB.out))) hk))) _ (Nat.le_refl _)) (Below.refl _ _) (Nat.le_refl _) (by simp) ?_; (case hd => rfl); (case hg => rfl); (case hr => first | (go_simp; done) | (go_simp; rfl)); (case hp => exact (Reps.one (show Kd.FK (Kd.slice 59 (Kd.int .u32)) _ _ l0 [.slice A0 l0.length c0] from (Kd.FK_slice_mk (Kd.V_reads' (Kd.V_mono (ok' := (fun k_ => ((P0_ k_ ∨ P1_ k_) ∨ w.heap.size ≤ k_))) (HO0.out) (fun k_ hk => hk))).2.1 (Kd.V_F (Kd.V_mono (ok' := (fun k_ => ((P0_ k_ ∨ P1_ k_) ∨ w.heap.size ≤ k_))) (HO0.out) (fun k_ hk => hk))))) (Reps.one (show Kd.FK (Kd.slice 59 (Kd.int .u32)) _ _ l1 [.slice A1 l1.length c1] from (Kd.FK_slice_mk (Kd.V_reads' (Kd.V_mono (ok' := (fun k_ => ((P0_ k_ ∨ P1_ k_) ∨ w.heap.size ≤ k_))) (HO1.out) (fun k_ hk => hk))).2.1 (Kd.V_F (Kd.V_mono (ok' := (fun k_ => ((P0_ k_ ∨ P1_ k_) ∨ w.heap.size ≤ k_))) (HO1.out) (fun k_ hk => hk))))) (Reps.none _ _)))); intro v152 w10 ho11 hb hg_ hnew_; clear hg_ hnew_; (first | rw [← Ny151.out] at ho11 | (simp only [Int.reduceToNat] at ho11; rw [← Ny151.out] at ho11)); have n0_ := Aside0.mk (Kd.V_elder' (by (with_reducible repeat (first | apply Kd.V_alloc | apply Kd.V_drewN | apply Kd.V_drew)); exact HO0.out) (Kd.N_base ho11) hb); have n1_ := Aside0.mk (Kd.V_elder' (by (with_reducible repeat (first | apply Kd.V_alloc | apply Kd.V_drewN | apply Kd.V_drew)); exact HO1.out) (Kd.N_base ho11) hb); have n2_ := Aside0.mk (Kd.N_lower ho11 (below_size (by repeat (first | (with_reducible first | exact HB.out | apply below_alloc | apply pw_below_drewN | apply below_drew1) | exact HB.out)))); have n3_ := Aside0.mk (below_step (by repeat (first | (with_reducible first | exact HB.out | apply below_alloc | apply pw_below_drewN | apply below_drew1) | exact HB.out)) hb); clear HO0; clear HO1; clear HB; have HO0 := n0_; have HO1 := n1_; have HO153 := n2_; have HB := n3_; clear n0_ n1_ n2_ n3_; clear hb ho11; obtain ⟨Ao12, co12, eo12⟩ := Kd.N_slice HO153.out; subst eo12) | (go_at_call 22; (with_reducible refine (psephoslaw01_few.calls k _ _ y151 true _ ?side1 ?side2 A5.out).mono ?_); (case side1 => repeat (first | exact (Kd.N_reads' HO153.out).2.2 | (with_reducible refine Kd.C_alloc ?_ _) | (with_reducible refine Kd.C_drewN ?_ _) | (with_reducible refine Kd.C_drew ?_))); (case side2 => exact (Kd.N_reads' HO153.out).2.1); rintro e w' ⟨rfl, ⟨nd, rfl⟩⟩) | ((with_reducible refine gate_callee (f := 21) rfl ?_); refine goesL_ (some 36) rfl rfl Try.func21 (by kernel_rfl) rfl #[] rfl (by (try simp only [List.map_toArray, List.map_cons, List.map_nil]); first | done | rfl | (simp only [List.length_drop, List.length_take]; rfl)) ?_; (with_reducible refine (psephoslaw01_awake.calls k  t155 _ A8.out).mono ?_); rintro e w13 ⟨rfl, hb⟩; refine ⟨_, rfl, ?_⟩; have n0_ := Aside0.mk (Kd.V_below (by (with_reducible repeat (first | apply Kd.V_alloc | apply Kd.V_drewN | apply Kd.V_drew)); exact HO0.out) hb); have n1_ := Aside0.mk (Kd.V_below (by (with_reducible repeat (first | apply Kd.V_alloc | apply Kd.V_drewN | apply Kd.V_drew)); exact HO1.out) hb); have n2_ := Aside0.mk (Kd.N_below (by (with_reducible repeat (first | apply Kd.N_alloc | apply Kd.N_drewN | apply Kd.N_drew)); exact HO153.out) hb); have n3_ := Aside0.mk (below_step (by repeat (first | (with_reducible first | exact HB.out | apply below_alloc | apply pw_below_drewN | apply below_drew1) | exact HB.out)) hb); clear HO0; clear HO1; clear HO153; clear HB; have HO0 := n0_; have HO1 := n1_; have HO153 := n2_; have HB := n3_; clear n0_ n1_ n2_ n3_; (try clear hb); (try clear hb2); (try clear hk); (try clear hi)))
        go_ret
        exact ⟨by first | rfl | (simp [errW_none, errW_some] <;> rfl) | (simp [*, errW_none, errW_some] <;> rfl), by repeat (first | (with_reducible first | exact HB.out | apply below_alloc | apply pw_below_drewN | apply below_drew1) | exact HB.out)⟩
      · rw [if_neg c7] at H
        have c7b0 : decide (30 < (l0.length : Int)) = false := decide_eq_false c7
        have c7b1 : decide (30 < l0.length) = false := decide_eq_false (by omega)
        clear c7
        by_cases c14 : (l1.length : Int) > 30
        · rw [if_pos c14] at H
          have c14b0 : decide (30 < (l1.length : Int)) = true := decide_eq_true c14
          have c14b1 : decide (30 < l1.length) = true := decide_eq_true (by omega)
          clear c14
          replace H := Option.bind_eq_some_iff.mp H
          obtain ⟨t156, A150, H⟩ := H
          replace H : (some t156) = some r := H
          have A15 := Aside0.mk A150
          clear A150
          obtain rfl := Option.some.inj H
          go_enter Try.func12, Try.ntmps12
          go_wp2_with (first | ((with_reducible refine gate_callee (f := 21) rfl ?_); refine goesL_ (some 17) rfl rfl Try.func21 (by kernel_rfl) rfl #[] rfl (by (try simp only [List.map_toArray, List.map_cons, List.map_nil]); first | done | rfl | (simp only [List.length_drop, List.length_take]; rfl)) ?_; (with_reducible refine (psephoslaw01_awake.calls k  true _ A3.out).mono ?_); rintro e w16 ⟨rfl, hb⟩; refine ⟨_, rfl, ?_⟩; have n0_ := Aside0.mk (Kd.V_below (by (with_reducible repeat (first | apply Kd.V_alloc | apply Kd.V_drewN | apply Kd.V_drew)); exact HO0.out) hb); have n1_ := Aside0.mk (Kd.V_below (by (with_reducible repeat (first | apply Kd.V_alloc | apply Kd.V_drewN | apply Kd.V_drew)); exact HO1.out) hb); have n2_ := Aside0.mk (below_step (by repeat (first | (with_reducible first | exact HB.out | apply below_alloc | apply pw_below_drewN | apply below_drew1) | exact HB.out)) hb); clear HO0; clear HO1; clear HB; have HO0 := n0_; have HO1 := n1_; have HB := n2_; clear n0_ n1_ n2_; (try clear hb); (try clear hb2); (try clear hk); (try clear hi)) | ((with_reducible refine gate_dst (N := 22) rfl ?_); (try (refine gate_guard (by rfl) ?_; dsimp only)); refine Kd.N_lit (Kd.slice 59 (Kd.int .u32)) _ 30 ?hg (N' := 22) ?hd (xs := ([l0, l1] : List (List Int))) (inner := [.slice A0 l0.length c0, .slice A1 l1.length c1]) (ok := (fun k_ => ((P0_ k_ ∨ P1_ k_) ∨ w.heap.size ≤ k_))) (okp := (fun k_ => ((P0_ k_ ∨ P1_ k_) ∨ w.heap.size ≤ k_))) ?hr ?hp (fun _ hk => hk) ((show ∀ k_, w16.heap.size ≤ k_ → (fun k_ => ((P0_ k_ ∨ P1_ k_) ∨ w.heap.size ≤ k_)) k_ from fun k_ hk => (.inr (Nat.le_trans (below_size (by repeat (first | (with_reducible first | exact HB.out | apply below_alloc | apply pw_below_drewN | apply below_drew1) | exact HB.out))) hk))) _ (Nat.le_refl _)) (Below.refl _ _) (Nat.le_refl _) (by simp) ?_; (case hd => rfl); (case hg => rfl); (case hr => first | (go_simp; done) | (go_simp; rfl)); (case hp => exact (Reps.one (show Kd.FK (Kd.slice 59 (Kd.int .u32)) _ _ l0 [.slice A0 l0.length c0] from (Kd.FK_slice_mk (Kd.V_reads' (Kd.V_mono (ok' := (fun k_ => ((P0_ k_ ∨ P1_ k_) ∨ w.heap.size ≤ k_))) (HO0.out) (fun k_ hk => hk))).2.1 (Kd.V_F (Kd.V_mono (ok' := (fun k_ => ((P0_ k_ ∨ P1_ k_) ∨ w.heap.size ≤ k_))) (HO0.out) (fun k_ hk => hk))))) (Reps.one (show Kd.FK (Kd.slice 59 (Kd.int .u32)) _ _ l1 [.slice A1 l1.length c1] from (Kd.FK_slice_mk (Kd.V_reads' (Kd.V_mono (ok' := (fun k_ => ((P0_ k_ ∨ P1_ k_) ∨ w.heap.size ≤ k_))) (HO1.out) (fun k_ hk => hk))).2.1 (Kd.V_F (Kd.V_mono (ok' := (fun k_ => ((P0_ k_ ∨ P1_ k_) ∨ w.heap.size ≤ k_))) (HO1.out) (fun k_ hk => hk))))) (Reps.none _ _)))); intro v152 w17 ho18 hb hg_ hnew_; clear hg_ hnew_; (first | rw [← Ny151.out] at ho18 | (simp only [Int.reduceToNat] at ho18; rw [← Ny151.out] at ho18)); have n0_ := Aside0.mk (Kd.V_elder' (by (with_reducible repeat (first | apply Kd.V_alloc | apply Kd.V_drewN | apply Kd.V_drew)); exact HO0.out) (Kd.N_base ho18) hb); have n1_ := Aside0.mk (Kd.V_elder' (by (with_reducible repeat (first | apply Kd.V_alloc | apply Kd.V_drewN | apply Kd.V_drew)); exact HO1.out) (Kd.N_base ho18) hb); have n2_ := Aside0.mk (Kd.N_lower ho18 (below_size (by repeat (first | (with_reducible first | exact HB.out | apply below_alloc | apply pw_below_drewN | apply below_drew1) | exact HB.out)))); have n3_ := Aside0.mk (below_step (by repeat (first | (with_reducible first | exact HB.out | apply below_alloc | apply pw_below_drewN | apply below_drew1) | exact HB.out)) hb); clear HO0; clear HO1; clear HB; have HO0 := n0_; have HO1 := n1_; have HO153 := n2_; have HB := n3_; clear n0_ n1_ n2_ n3_; clear hb ho18; obtain ⟨Ao19, co19, eo19⟩ := Kd.N_slice HO153.out; subst eo19) | (go_at_call 22; (with_reducible refine (psephoslaw01_few.calls k _ _ y151 true _ ?side1 ?side2 A5.out).mono ?_); (case side1 => repeat (first | exact (Kd.N_reads' HO153.out).2.2 | (with_reducible refine Kd.C_alloc ?_ _) | (with_reducible refine Kd.C_drewN ?_ _) | (with_reducible refine Kd.C_drew ?_))); (case side2 => exact (Kd.N_reads' HO153.out).2.1); rintro e w' ⟨rfl, ⟨nd, rfl⟩⟩) | ((with_reducible refine gate_callee (f := 21) rfl ?_); refine goesL_ (some 36) rfl rfl Try.func21 (by kernel_rfl) rfl #[] rfl (by (try simp only [List.map_toArray, List.map_cons, List.map_nil]); first | done | rfl | (simp only [List.length_drop, List.length_take]; rfl)) ?_; (with_reducible refine (psephoslaw01_awake.calls k  t156 _ A15.out).mono ?_); rintro e w20 ⟨rfl, hb⟩; refine ⟨_, rfl, ?_⟩; have n0_ := Aside0.mk (Kd.V_below (by (with_reducible repeat (first | apply Kd.V_alloc | apply Kd.V_drewN | apply Kd.V_drew)); exact HO0.out) hb); have n1_ := Aside0.mk (Kd.V_below (by (with_reducible repeat (first | apply Kd.V_alloc | apply Kd.V_drewN | apply Kd.V_drew)); exact HO1.out) hb); have n2_ := Aside0.mk (Kd.N_below (by (with_reducible repeat (first | apply Kd.N_alloc | apply Kd.N_drewN | apply Kd.N_drew)); exact HO153.out) hb); have n3_ := Aside0.mk (below_step (by repeat (first | (with_reducible first | exact HB.out | apply below_alloc | apply pw_below_drewN | apply below_drew1) | exact HB.out)) hb); clear HO0; clear HO1; clear HO153; clear HB; have HO0 := n0_; have HO1 := n1_; have HO153 := n2_; have HB := n3_; clear n0_ n1_ n2_ n3_; (try clear hb); (try clear hb2); (try clear hk); (try clear hi)))
          go_ret
          exact ⟨by first | rfl | (simp [errW_none, errW_some] <;> rfl) | (simp [*, errW_none, errW_some] <;> rfl), by repeat (first | (with_reducible first | exact HB.out | apply below_alloc | apply pw_below_drewN | apply below_drew1) | exact HB.out)⟩
        · rw [if_neg c14] at H
          have c14b0 : decide (30 < (l1.length : Int)) = false := decide_eq_false c14
          have c14b1 : decide (30 < l1.length) = false := decide_eq_false (by omega)
          clear c14
          obtain ⟨⟨s1, e1⟩, B1, H⟩ := Option.bind_eq_some_iff.mp H
          obtain ⟨⟨s2, e2⟩, B2, H⟩ := Option.bind_eq_some_iff.mp H
          obtain ⟨⟨s3, e3⟩, B3, H⟩ := Option.bind_eq_some_iff.mp H
          obtain ⟨⟨s4, e4⟩, B4, H⟩ := Option.bind_eq_some_iff.mp H
          obtain ⟨⟨s5, s6, e5⟩, B5, H⟩ := Option.bind_eq_some_iff.mp H
          obtain rfl := Option.some.inj H
          have Y1 := asd B1
          have Y2 := asd B2
          have Y3 := asd B3
          have Y4 := asd B4
          have Y5 := asd B5
          clear B1 B2 B3 B4 B5 H
          have hn0 : l0.length ≤ 30 := by have := of_decide_eq_false c7b1; omega
          have hn1 : l1.length ≤ 30 := by have := of_decide_eq_false c14b1; omega
          go_enter Try.func12, Try.ntmps12
          go_upto_region 3 with (first | ((with_reducible refine gate_callee (f := 21) rfl ?_); refine goesL_ (some 17) rfl rfl Try.func21 (by kernel_rfl) rfl #[] rfl (by (try simp only [List.map_toArray, List.map_cons, List.map_nil]); first | done | rfl | (simp only [List.length_drop, List.length_take]; rfl)) ?_; (with_reducible refine (psephoslaw01_awake.calls k  true _ A3.out).mono ?_); rintro e w21 ⟨rfl, hb⟩; refine ⟨_, rfl, ?_⟩; have n0_ := Aside0.mk (Kd.V_below (by (with_reducible repeat (first | apply Kd.V_alloc | apply Kd.V_drewN | apply Kd.V_drew)); exact HO0.out) hb); have n1_ := Aside0.mk (Kd.V_below (by (with_reducible repeat (first | apply Kd.V_alloc | apply Kd.V_drewN | apply Kd.V_drew)); exact HO1.out) hb); have n2_ := Aside0.mk (below_step (by repeat (first | (with_reducible first | exact HB.out | apply below_alloc | apply pw_below_drewN | apply below_drew1) | exact HB.out)) hb); clear HO0; clear HO1; clear HB; have HO0 := n0_; have HO1 := n1_; have HB := n2_; clear n0_ n1_ n2_; (try clear hb); (try clear hb2); (try clear hk); (try clear hi)) | ((with_reducible refine gate_dst (N := 22) rfl ?_); (try (refine gate_guard (by rfl) ?_; dsimp only)); refine Kd.N_lit (Kd.slice 59 (Kd.int .u32)) _ 30 ?hg (N' := 22) ?hd (xs := ([l0, l1] : List (List Int))) (inner := [.slice A0 l0.length c0, .slice A1 l1.length c1]) (ok := (fun k_ => ((P0_ k_ ∨ P1_ k_) ∨ w.heap.size ≤ k_))) (okp := (fun k_ => ((P0_ k_ ∨ P1_ k_) ∨ w.heap.size ≤ k_))) ?hr ?hp (fun _ hk => hk) ((show ∀ k_, w21.heap.size ≤ k_ → (fun k_ => ((P0_ k_ ∨ P1_ k_) ∨ w.heap.size ≤ k_)) k_ from fun k_ hk => (.inr (Nat.le_trans (below_size (by repeat (first | (with_reducible first | exact HB.out | apply below_alloc | apply pw_below_drewN | apply below_drew1) | exact HB.out))) hk))) _ (Nat.le_refl _)) (Below.refl _ _) (Nat.le_refl _) (by simp) ?_; (case hd => rfl); (case hg => rfl); (case hr => first | (go_simp; done) | (go_simp; rfl)); (case hp => exact (Reps.one (show Kd.FK (Kd.slice 59 (Kd.int .u32)) _ _ l0 [.slice A0 l0.length c0] from (Kd.FK_slice_mk (Kd.V_reads' (Kd.V_mono (ok' := (fun k_ => ((P0_ k_ ∨ P1_ k_) ∨ w.heap.size ≤ k_))) (HO0.out) (fun k_ hk => hk))).2.1 (Kd.V_F (Kd.V_mono (ok' := (fun k_ => ((P0_ k_ ∨ P1_ k_) ∨ w.heap.size ≤ k_))) (HO0.out) (fun k_ hk => hk))))) (Reps.one (show Kd.FK (Kd.slice 59 (Kd.int .u32)) _ _ l1 [.slice A1 l1.length c1] from (Kd.FK_slice_mk (Kd.V_reads' (Kd.V_mono (ok' := (fun k_ => ((P0_ k_ ∨ P1_ k_) ∨ w.heap.size ≤ k_))) (HO1.out) (fun k_ hk => hk))).2.1 (Kd.V_F (Kd.V_mono (ok' := (fun k_ => ((P0_ k_ ∨ P1_ k_) ∨ w.heap.size ≤ k_))) (HO1.out) (fun k_ hk => hk))))) (Reps.none _ _)))); intro v152 w22 ho23 hb hg_ hnew_; clear hg_ hnew_; (first | rw [← Ny151.out] at ho23 | (simp only [Int.reduceToNat] at ho23; rw [← Ny151.out] at ho23)); have n0_ := Aside0.mk (Kd.V_elder' (by (with_reducible repeat (first | apply Kd.V_alloc | apply Kd.V_drewN | apply Kd.V_drew)); exact HO0.out) (Kd.N_base ho23) hb); have n1_ := Aside0.mk (Kd.V_elder' (by (with_reducible repeat (first | apply Kd.V_alloc | apply Kd.V_drewN | apply Kd.V_drew)); exact HO1.out) (Kd.N_base ho23) hb); have n2_ := Aside0.mk (Kd.N_lower ho23 (below_size (by repeat (first | (with_reducible first | exact HB.out | apply below_alloc | apply pw_below_drewN | apply below_drew1) | exact HB.out)))); have n3_ := Aside0.mk (below_step (by repeat (first | (with_reducible first | exact HB.out | apply below_alloc | apply pw_below_drewN | apply below_drew1) | exact HB.out)) hb); clear HO0; clear HO1; clear HB; have HO0 := n0_; have HO1 := n1_; have HO153 := n2_; have HB := n3_; clear n0_ n1_ n2_ n3_; clear hb ho23; obtain ⟨Ao24, co24, eo24⟩ := Kd.N_slice HO153.out; subst eo24) | (go_at_call 22; (with_reducible refine (psephoslaw01_few.calls k _ _ y151 true _ ?side1 ?side2 A5.out).mono ?_); (case side1 => repeat (first | exact (Kd.N_reads' HO153.out).2.2 | (with_reducible refine Kd.C_alloc ?_ _) | (with_reducible refine Kd.C_drewN ?_ _) | (with_reducible refine Kd.C_drew ?_))); (case side2 => exact (Kd.N_reads' HO153.out).2.1); rintro e w' ⟨rfl, ⟨nd, rfl⟩⟩))
          go_cut [5, 6] (fun s5 s6 w3 => Mk w l0.length l1.length s5 s6 w3)
          case first =>
            have hm0 : ∀ W : World, (Instr.makeSlice 38 (.int .i64 (l0.length : Int)) (.int .i64 (IntKind.i64.wrap ((l0.length : Int) + 8)))).run Try.prog W = .ok (.slice (some ⟨W.heap.size, 0, none⟩) l0.length (l0.length + 8)) (W.alloc (.cells (ZS (l0.length + 8)).toArray 59)) := fun W => mk_run W _ hn0 _ (by rw [IntKind.wrap_i64]; omega)
            have hm1 : ∀ W : World, (Instr.makeSlice 38 (.int .i64 (l1.length : Int)) (.int .i64 (IntKind.i64.wrap ((l1.length : Int) + 8)))).run Try.prog W = .ok (.slice (some ⟨W.heap.size, 0, none⟩) l1.length (l1.length + 8)) (W.alloc (.cells (ZS (l1.length + 8)).toArray 59)) := fun W => mk_run W _ hn1 _ (by rw [IntKind.wrap_i64]; omega)
            go_region_with (fail)
            all_goals (first | go_meet | (go_wp2; go_meet))
            case rel => first | exact mkA _ _ _ (by simp) (by repeat (first | (with_reducible first | exact HB.out | apply below_alloc | apply pw_below_drewN | apply below_drew1) | exact HB.out)) | exact mkB _ _ _ (by simp) (by repeat (first | (with_reducible first | exact HB.out | apply below_alloc | apply pw_below_drewN | apply below_drew1) | exact HB.out))
            case rel => first | exact mkA _ _ _ (by simp) (by repeat (first | (with_reducible first | exact HB.out | apply below_alloc | apply pw_below_drewN | apply below_drew1) | exact HB.out)) | exact mkB _ _ _ (by simp) (by repeat (first | (with_reducible first | exact HB.out | apply below_alloc | apply pw_below_drewN | apply below_drew1) | exact HB.out))
          case rest =>
            clear HB
            obtain ⟨g5, g6, rfl, rfl, HB3, K5, K6, N56, G5, G6⟩ := hcut
            go_upto_region 4 with fail
            go_cut [] (fun w4 => Aside0 (Below w.heap.size w w4) ∧ Aside0 (w4.heap[g5]? = some (.cells (XS l0).toArray 59 (0, 0))) ∧ Aside0 (w4.heap[g6]? = some (.cells (ZS (l1.length + 8)).toArray 59 (0, 0))))
            case first =>
              by_cases hz : l0.length = 0
              · have hl : l0 = [] := List.eq_nil_of_length_eq_zero hz
                go_wp2_with ((with_reducible refine gate_builtin (b := .copy) (xs := #[.tmp 49, .tmp 50]) rfl ?_); refine wpList_copy_nothing rfl _ _ _ _ rfl 59 Try.underlying38 sz59 _ _ _ _ _ _ rfl rfl (by rw [hz]; rfl) ?_)
                go_meet
                case rel => exact ⟨HB3, ⟨by have h := K5.out; rw [hz] at h; rw [hl]; exact h⟩, K6⟩
              · obtain ⟨ad, e, hc⟩ := rv_cells (RV.below RA.out HB3.out) (by omega)
                subst e
                go_wp2_with ((with_reducible refine gate_builtin (b := .copy) (xs := #[.tmp 49, .tmp 50]) rfl ?_); refine wpList_copy_own rfl _ _ _ _ rfl 59 Try.underlying38 sz59 g5 0 _ _ ad _ _ rfl rfl (ZS (l0.length + 8)).toArray 59 K5.out (l0.map (Value.int .u32)) (by simp) hc (by simp [ZS]) (by simp [Value.oneCell']) ?_)
                go_meet
                case rel => exact ⟨⟨below_setRow HB3.out G5.out _⟩, ⟨by have h := setRow_heap wc g5 _ ((ZS (l0.length + 8)).toArray.toList.take 0 ++ (l0.map (Value.int .u32) ++ (ZS (l0.length + 8)).toArray.toList.drop (0 + (l0.map (Value.int .u32)).length))).toArray 59 _ K5.out; rw [← splice_ZS]; exact h⟩, ⟨(setRow_other wc g5 _ _ (by have := N56.out; omega)).trans K6.out⟩⟩
            case rest =>
              clear HB3 K5 K6
              obtain ⟨HB3, K5, K6⟩ := hcut
              go_upto_region 5 with fail
              go_cut [] (fun w5 => Aside0 (Below w.heap.size w w5) ∧ Aside0 (w5.heap[g6]? = some (.cells (XS l1).toArray 59 (0, 0))) ∧ Aside0 (w5.heap[g5]? = some (.cells (XS l0).toArray 59 (0, 0))))
              case first =>
                by_cases hz : l1.length = 0
                · have hl : l1 = [] := List.eq_nil_of_length_eq_zero hz
                  go_wp2_with ((with_reducible refine gate_builtin (b := .copy) (xs := #[.tmp 52, .tmp 53]) rfl ?_); refine wpList_copy_nothing rfl _ _ _ _ rfl 59 Try.underlying38 sz59 _ _ _ _ _ _ rfl rfl (by rw [hz]; rfl) ?_)
                  go_meet
                  case rel => exact ⟨HB3, ⟨by have h := K6.out; rw [hz] at h; rw [hl]; exact h⟩, K5⟩
                · obtain ⟨ad, e, hc⟩ := rv_cells (RV.below RB.out HB3.out) (by omega)
                  subst e
                  go_wp2_with ((with_reducible refine gate_builtin (b := .copy) (xs := #[.tmp 52, .tmp 53]) rfl ?_); refine wpList_copy_own rfl _ _ _ _ rfl 59 Try.underlying38 sz59 g6 0 _ _ ad _ _ rfl rfl (ZS (l1.length + 8)).toArray 59 K6.out (l1.map (Value.int .u32)) (by simp) hc (by simp [ZS]) (by simp [Value.oneCell']) ?_)
                  go_meet
                  case rel => exact ⟨⟨below_setRow HB3.out G6.out _⟩, ⟨by have h := setRow_heap wc g6 _ ((ZS (l1.length + 8)).toArray.toList.take 0 ++ (l1.map (Value.int .u32) ++ (ZS (l1.length + 8)).toArray.toList.drop (0 + (l1.map (Value.int .u32)).length))).toArray 59 _ K6.out; rw [← splice_ZS]; exact h⟩, ⟨(setRow_other wc g6 _ _ (by have := N56.out; omega)).trans K5.out⟩⟩
              case rest =>
                clear HB3 K5 K6
                obtain ⟨HB3, K6, K5⟩ := hcut
                go_upto_region 6 with fail
                go_cut [7, 8] (fun s7 s8 w6 => ∃ (X : Option Addr) (y B : Nat), s7 = .slice X s1.length y ∧ s8 = .int .i64 e1 ∧ Aside0 (Below w.heap.size w w6) ∧ Aside0 (w6.heap[g5]? = some (.cells (XS l0).toArray 59 (0, 0))) ∧ Aside0 (w6.heap[g6]? = some (.cells (XS l1).toArray 59 (0, 0))) ∧ Aside0 (g5 < B) ∧ Aside0 (g6 < B) ∧ Aside0 (w.heap.size ≤ B) ∧ Aside0 (Own1 w6 B X s1))
                case first =>
                  go_wp2_with (go_at_call 32; (with_reducible refine (limb_Add.calls k (fun _ => True) _ _ l0 (fun _ => True) _ _ l1 s1 e1 _ ?z1_0 ?z1_1 Y1.out).mono ?_); (case z1_0 => exact RV.V (rv_blk hn0 K5.out)); (case z1_1 => exact RV.V (rv_blk hn1 K6.out)); rintro e W1 ⟨v, rfl, ho, hb⟩; obtain ⟨X, y, e9⟩ := Kd.R_slice ho; subst e9; have OO := asd (own1 ho); have HW := asd hb; clear ho hb)
                  go_meet
                  case rel => exact ⟨_, _, _, rfl, rfl, ⟨below_step HB3.out HW.out⟩, ⟨blk_below K5.out HW.out⟩, ⟨blk_below K6.out HW.out⟩, ⟨blk_lt K5.out⟩, ⟨blk_lt K6.out⟩, ⟨HB3.out.size⟩, OO⟩
                case rest =>
                  clear HB3 K5 K6
                  obtain ⟨X, y, B, rfl, rfl, HB3, K5, K6, L5, L6, LB, OO⟩ := hcut
                  go_upto_region 7 with fail
                  go_cut [67] (fun s67 w7 => ∃ b : Bool, s67 = .bool b ∧ Aside0 (b = true → 0 < s1.length) ∧ Aside0 (Below w.heap.size w w7) ∧ Aside0 (w7.heap[g5]? = some (.cells (XS l0).toArray 59 (0, 0))) ∧ Aside0 (w7.heap[g6]? = some (.cells (XS l1).toArray 59 (0, 0))) ∧ Aside0 (Own1 w7 B X s1))
                  case first =>
                    by_cases he : e1 = 0
                    · subst he
                      go_wp2
                      go_meet
                      case rel => exact ⟨_, rfl, ⟨fun h => by simpa using h⟩, HB3, K5, K6, OO⟩
                    · have he1 : decide (e1 = 0) = false := decide_eq_false he
                      go_wp2
                      go_meet
                      case rel => exact ⟨_, rfl, ⟨fun h => by simp at h⟩, HB3, K5, K6, OO⟩
                  case rest =>
                    clear HB3 K5 K6 OO
                    obtain ⟨b, rfl, Hb, HB3, K5, K6, OO⟩ := hcut
                    go_upto_if 67 with fail
                    go_cut [] (fun w8 => Aside0 (Below w.heap.size w w8) ∧ Aside0 (w8.heap[g5]? = some (.cells (XS l0).toArray 59 (0, 0))) ∧ Aside0 (w8.heap[g6]? = some (.cells (XS l1).toArray 59 (0, 0))))
                    case first =>
                      cases b with
                      | false =>
                        go_wp2
                        go_meet
                        case rel => exact ⟨HB3, K5, K6⟩
                      | true =>
                        obtain ⟨g, cur, m, e, hB, hk, hc⟩ := OO.out (Hb.out rfl)
                        subst e
                        have hq : 0 < s1.length := Hb.out rfl
                        have hq0 : decide ((0 : Int) < (s1.length : Int)) = true := decide_eq_true (by omega)
                        have c0_ : wc.cell? ⟨g, 0, none⟩ = some (.int .u32 m) := (blk_cell hk 0).trans hc
                        have f0_ := blk_frozen hk 0
                        have hg5 : g5 ≠ g := by have := L5.out; omega
                        have hg6 : g6 ≠ g := by have := L6.out; omega
                        go_wp2
                        go_meet
                        case rel => exact ⟨⟨below_set HB3.out (Nat.le_trans LB.out hB)⟩, ⟨blk_far K5.out hg5 _⟩, ⟨blk_far K6.out hg6 _⟩⟩
                    case rest =>
                      clear HB3 K5 K6 OO
                      obtain ⟨HB3, K5, K6⟩ := hcut
                      go_upto_region 12 with (first | (go_at_call 34; (with_reducible refine (limb_Sub.calls k (fun _ => True) _ _ l0 (fun _ => True) _ _ l1 s2 e2 _ ?z2_0 ?z2_1 Y2.out).mono ?_); (case z2_0 => exact RV.V (rv_blk hn0 K5.out)); (case z2_1 => exact RV.V (rv_blk hn1 K6.out)); rintro e W1 ⟨v, rfl, ho, hb⟩; have K5n := asd (blk_below K5.out hb); have K6n := asd (blk_below K6.out hb); have HBn := asd (below_step HB3.out hb); clear K5 K6 HB3 ho hb; have K5 := K5n; have K6 := K6n; have HB3 := HBn; clear K5n K6n HBn) | (go_at_call 30; (with_reducible refine (limb_Mul.calls k (fun _ => True) _ _ l0 (fun _ => True) _ _ l1 s3 e3 _ ?z3_0 ?z3_1 Y3.out).mono ?_); (case z3_0 => exact RV.V (rv_blk hn0 K5.out)); (case z3_1 => exact RV.V (rv_blk hn1 K6.out)); rintro e W1 ⟨v, rfl, ho, hb⟩; have K5n := asd (blk_below K5.out hb); have K6n := asd (blk_below K6.out hb); have HBn := asd (below_step HB3.out hb); clear K5 K6 HB3 ho hb; have K5 := K5n; have K6 := K6n; have HB3 := HBn; clear K5n K6n HBn) | (go_at_call 40; (with_reducible refine (limb_Gcd.calls k (fun _ => True) _ _ l0 (fun _ => True) _ _ l1 s4 e4 _ ?z4_0 ?z4_1 Y4.out).mono ?_); (case z4_0 => exact RV.V (rv_blk hn0 K5.out)); (case z4_1 => exact RV.V (rv_blk hn1 K6.out)); rintro e W1 ⟨v, rfl, ho, hb⟩; have K5n := asd (blk_below K5.out hb); have K6n := asd (blk_below K6.out hb); have HBn := asd (below_step HB3.out hb); clear K5 K6 HB3 ho hb; have K5 := K5n; have K6 := K6n; have HB3 := HBn; clear K5n K6n HBn))
                      go_cut [9, 10, 11] (fun s9 s10 s11 wx => ∃ (X : Option Addr) (y : Nat) (X' : Option Addr) (y' B : Nat), s9 = .slice X s5.length y ∧ s10 = .slice X' s6.length y' ∧ s11 = .int .i64 e5 ∧ Aside0 (Below w.heap.size w wx) ∧ Aside0 (wx.heap[g5]? = some (.cells (XS l0).toArray 59 (0, 0))) ∧ Aside0 (wx.heap[g6]? = some (.cells (XS l1).toArray 59 (0, 0))) ∧ Aside0 (g5 < B) ∧ Aside0 (g6 < B) ∧ Aside0 (w.heap.size ≤ B) ∧ Aside0 (Own1 wx B X s5) ∧ Aside0 (Own1 wx B X' s6) ∧ Aside0 (∀ a b, X = some ⟨a, 0, none⟩ → X' = some ⟨b, 0, none⟩ → a ≠ b))
                      case first =>
                        go_wp2_with (go_at_call 38; (with_reducible refine (limb_DivMod.calls k (fun _ => True) _ _ l0 (fun _ => True) _ _ l1 s5 s6 e5 _ ?z5_0 ?z5_1 Y5.out).mono ?_); (case z5_0 => exact RV.V (rv_blk hn0 K5.out)); (case z5_1 => exact RV.V (rv_blk hn1 K6.out)); rintro e W1 ⟨v, u, rfl, ho, hp, hb⟩; obtain ⟨X, y, e9⟩ := Kd.R_slice ho; subst e9; obtain ⟨X', y', e9⟩ := Kd.R_slice hp; subst e9; have OO := asd (own1 ho); have OP := asd (own1 hp); have DD := asd (show ∀ a b, X = some ⟨a, 0, none⟩ → X' = some ⟨b, 0, none⟩ → a ≠ b from fun a b ea eb he => by subst ea; subst eb; subst he; exact (ho.1 a rfl).2 rfl); have HW := asd hb; clear ho hp hb)
                        go_meet
                        case rel => exact ⟨_, _, _, _, _, rfl, rfl, rfl, ⟨below_step HB3.out HW.out⟩, ⟨blk_below K5.out HW.out⟩, ⟨blk_below K6.out HW.out⟩, ⟨blk_lt K5.out⟩, ⟨blk_lt K6.out⟩, ⟨HB3.out.size⟩, OO, OP, DD⟩
                      case rest =>
                        clear HB3 K5 K6 L5 L6 LB
                        obtain ⟨X, y, X', y', B, rfl, rfl, rfl, HB3, K5, K6, L5, L6, LB, OO, OP, DD⟩ := hcut
                        go_upto_if 91 with fail
                        go_cut [] (fun wx => Aside0 (Below w.heap.size w wx) ∧ Aside0 (wx.heap[g5]? = some (.cells (XS l0).toArray 59 (0, 0))) ∧ Aside0 (wx.heap[g6]? = some (.cells (XS l1).toArray 59 (0, 0))) ∧ Aside0 (Own1 wx B X' s6))
                        case first =>
                          by_cases hq : 0 < s5.length
                          · obtain ⟨g, cur, m, e, hB, hk, hc⟩ := OO.out hq
                            subst e
                            have hq0 : decide ((0 : Int) < (s5.length : Int)) = true := decide_eq_true (by omega)
                            have hq1 : decide (0 < s5.length) = true := decide_eq_true hq
                            have c0_ : wc.cell? ⟨g, 0, none⟩ = some (.int .u32 m) := (blk_cell hk 0).trans hc
                            have f0_ := blk_frozen hk 0
                            have hg5 : g5 ≠ g := by have := L5.out; omega
                            have hg6 : g6 ≠ g := by have := L6.out; omega
                            go_wp2
                            go_meet
                            case rel => exact ⟨⟨below_set HB3.out (Nat.le_trans LB.out hB)⟩, ⟨blk_far K5.out hg5 _⟩, ⟨blk_far K6.out hg6 _⟩, ⟨fun h0 => by obtain ⟨g', cur', m', e', hB', hk', hc'⟩ := OP.out h0; exact ⟨g', cur', m', e', hB', blk_far hk' (Ne.symm (DD.out g g' rfl e')) _, hc'⟩⟩⟩
                          · have hq0 : decide ((0 : Int) < (s5.length : Int)) = false := decide_eq_false (by omega)
                            have hq1 : decide (0 < s5.length) = false := decide_eq_false hq
                            go_wp2
                            go_meet
                            case rel => exact ⟨HB3, K5, K6, OP⟩
                        case rest =>
                          clear HB3 K5 K6 OO OP DD
                          obtain ⟨HB3, K5, K6, OP⟩ := hcut
                          go_upto_if 99 with fail
                          go_cut [] (fun wx => Aside0 (Below w.heap.size w wx) ∧ Aside0 (wx.heap[g5]? = some (.cells (XS l0).toArray 59 (0, 0))) ∧ Aside0 (wx.heap[g6]? = some (.cells (XS l1).toArray 59 (0, 0))))
                          case first =>
                            by_cases hq : 0 < s6.length
                            · obtain ⟨g, cur, m, e, hB, hk, hc⟩ := OP.out hq
                              subst e
                              have hq0 : decide ((0 : Int) < (s6.length : Int)) = true := decide_eq_true (by omega)
                              have hq1 : decide (0 < s6.length) = true := decide_eq_true hq
                              have c0_ : wc.cell? ⟨g, 0, none⟩ = some (.int .u32 m) := (blk_cell hk 0).trans hc
                              have f0_ := blk_frozen hk 0
                              have hg5 : g5 ≠ g := by have := L5.out; omega
                              have hg6 : g6 ≠ g := by have := L6.out; omega
                              go_wp2
                              go_meet
                              case rel => exact ⟨⟨below_set HB3.out (Nat.le_trans LB.out hB)⟩, ⟨blk_far K5.out hg5 _⟩, ⟨blk_far K6.out hg6 _⟩⟩
                            · have hq0 : decide ((0 : Int) < (s6.length : Int)) = false := decide_eq_false (by omega)
                              have hq1 : decide (0 < s6.length) = false := decide_eq_false hq
                              go_wp2
                              go_meet
                              case rel => exact ⟨HB3, K5, K6⟩
                          case rest =>
                            clear HB3 K5 K6 OP
                            obtain ⟨HB3, K5, K6⟩ := hcut
                            go_wp2
                            go_loopg [107] l0.length (fun m vi w' => ∃ x : Int, vi = .int .i64 x ∧ Aside0 (0 ≤ x) ∧ Aside0 (x + (m : Int) = (l0.length : Int)) ∧ Aside0 (Below w.heap.size w w') ∧ Aside0 (w'.heap[g5]? = some (.cells (XS l0).toArray 59 (0, 0))) ∧ Aside0 (w'.heap[g6]? = some (.cells (XS l1).toArray 59 (0, 0))))
                            case atStart => exact ⟨0, rfl, ⟨by omega⟩, ⟨by omega⟩, HB3, K5, K6⟩
                            case round =>
                              clear HB3 K5 K6
                              obtain ⟨x, rfl, X0, XM, HB3, K5, K6⟩ := hrel
                              have hx0 := X0.out
                              have hxm := XM.out
                              by_cases hlt : x < (l0.length : Int)
                              · have dlt : decide (x < (l0.length : Int)) = true := decide_eq_true hlt
                                have hx1 := at_x hn0 K5.out x hx0 hlt
                                obtain ⟨ad, e, hx2⟩ := Kd.at_int (RV.below RA.out HB3.out).C x hx0 hlt
                                cases e
                                have q3 : (x < (l0.length : Int) + 8) = True := eq_true (by omega)
                                have hwx : wrap64 (x + 1) = x + 1 := by unfold wrap64; omega
                                have hwy : IntKind.i64.wrap (x + 1) = x + 1 := by rw [IntKind.wrap_i64]; omega
                                have hz0 : (0 ≤ x) = True := eq_true hx0
                                have hz1 : (x < (l0.length : Int)) = True := eq_true hlt
                                cases gk with
                                | zero => omega
                                | succ k1 =>
                                  go_wp2
                                  repeat (go_quiet (fail); try go_wp2)
                                  go_roundg k1
                                  case measure => omega
                                  case rel => exact ⟨x + 1, by first | rfl | (simp [hwx, hwy]; done) | (simp [*]; done), ⟨by omega⟩, ⟨by omega⟩, ⟨pw_below_drewN HB3.out _⟩, ⟨blk_drewN K5.out _⟩, ⟨blk_drewN K6.out _⟩⟩
                              · have dlt : decide (x < (l0.length : Int)) = false := decide_eq_false hlt
                                go_wp2
                                go_loopg [122] l1.length (fun m vi w' => ∃ x : Int, vi = .int .i64 x ∧ Aside0 (0 ≤ x) ∧ Aside0 (x + (m : Int) = (l1.length : Int)) ∧ Aside0 (Below w.heap.size w w') ∧ Aside0 (w'.heap[g5]? = some (.cells (XS l0).toArray 59 (0, 0))) ∧ Aside0 (w'.heap[g6]? = some (.cells (XS l1).toArray 59 (0, 0))))
                                case atStart => exact ⟨0, rfl, ⟨by omega⟩, ⟨by omega⟩, HB3, K5, K6⟩
                                case round =>
                                  clear HB3 K5 K6
                                  obtain ⟨x, rfl, X0, XM, HB3, K5, K6⟩ := hrel
                                  have hx0 := X0.out
                                  have hxm := XM.out
                                  by_cases hlt : x < (l1.length : Int)
                                  · have dlt : decide (x < (l1.length : Int)) = true := decide_eq_true hlt
                                    have hx1 := at_x hn1 K6.out x hx0 hlt
                                    obtain ⟨ad, e, hx2⟩ := Kd.at_int (RV.below RB.out HB3.out).C x hx0 hlt
                                    cases e
                                    have q3 : (x < (l1.length : Int) + 8) = True := eq_true (by omega)
                                    have hwx : wrap64 (x + 1) = x + 1 := by unfold wrap64; omega
                                    have hwy : IntKind.i64.wrap (x + 1) = x + 1 := by rw [IntKind.wrap_i64]; omega
                                    have hz0 : (0 ≤ x) = True := eq_true hx0
                                    have hz1 : (x < (l1.length : Int)) = True := eq_true hlt
                                    cases gk with
                                    | zero => omega
                                    | succ k1 =>
                                      go_wp2
                                      repeat (go_quiet (fail); try go_wp2)
                                      go_roundg k1
                                      case measure => omega
                                      case rel => exact ⟨x + 1, by first | rfl | (simp [hwx, hwy]; done) | (simp [*]; done), ⟨by omega⟩, ⟨by omega⟩, ⟨pw_below_drewN HB3.out _⟩, ⟨blk_drewN K5.out _⟩, ⟨blk_drewN K6.out _⟩⟩
                                  · have dlt : decide (x < (l1.length : Int)) = false := decide_eq_false hlt
                                    go_upto_region 29 with fail
                                    go_cut [14, 15] (fun s14 s15 wx => s14 = .slice (some ⟨g5, 0, none⟩) (l0.length + 8) (l0.length + 8) ∧ s15 = .slice (some ⟨g6, 0, none⟩) (l1.length + 8) (l1.length + 8) ∧ Aside0 (Below w.heap.size w wx) ∧ Aside0 (wx.heap[g5]? = some (.cells (XS l0).toArray 59 (0, 0))) ∧ Aside0 (wx.heap[g6]? = some (.cells (XS l1).toArray 59 (0, 0))))
                                    case first =>
                                      have q5 := cut_cap (some ⟨g5, 0, none⟩) l0.length (l0.length + 8) (by omega) ((l0.length : Int) + 8) (by omega)
                                      have q6 := cut_cap (some ⟨g6, 0, none⟩) l1.length (l1.length + 8) (by omega) ((l1.length : Int) + 8) (by omega)
                                      go_region_with (fail)
                                      all_goals (first | go_meet | (go_wp2; go_meet))
                                      all_goals first | exact ⟨rfl, rfl, HB3, K5, K6⟩ | exact ⟨rfl, rfl, ⟨HB3.out.drew⟩, K5, K6⟩ | exact ⟨rfl, rfl, ⟨pw_below_drewN HB3.out _⟩, ⟨blk_drewN K5.out _⟩, ⟨blk_drewN K6.out _⟩⟩
                                    case rest =>
                                      clear HB3 K5 K6
                                      obtain ⟨rfl, rfl, HB3, K5, K6⟩ := hcut
                                      go_wp2
                                      go_loopg [143] 8 (fun m vi w' => ∃ x : Int, vi = .int .i64 x ∧ Aside0 (0 ≤ x) ∧ Aside0 (x + (m : Int) = 8) ∧ Aside0 (Below w.heap.size w w') ∧ Aside0 (w'.heap[g5]? = some (.cells (XS l0).toArray 59 (0, 0))) ∧ Aside0 (w'.heap[g6]? = some (.cells (XS l1).toArray 59 (0, 0))))
                                      case atStart => exact ⟨0, rfl, ⟨by omega⟩, ⟨by omega⟩, HB3, K5, K6⟩
                                      case round =>
                                        clear HB3 K5 K6
                                        obtain ⟨x, rfl, X0, XM, HB3, K5, K6⟩ := hrel
                                        have hx0 := X0.out
                                        have hxm := XM.out
                                        by_cases hlt : x < 8
                                        · have dlt : decide (x < 8) = true := decide_eq_true hlt
                                          have hj5 : IntKind.i64.wrap ((l0.length : Int) + x) = (l0.length : Int) + x := by rw [IntKind.wrap_i64]; omega
                                          have hj6 : IntKind.i64.wrap ((l1.length : Int) + x) = (l1.length : Int) + x := by rw [IntKind.wrap_i64]; omega
                                          have hx5 := at_8 K5.out x hx0 hlt _ rfl
                                          have hx6 := at_8 K6.out x hx0 hlt _ rfl
                                          have p5 : (0 ≤ (l0.length : Int) + x) = True := eq_true (by omega)
                                          have p6 : (0 ≤ (l1.length : Int) + x) = True := eq_true (by omega)
                                          have q5 : ((l0.length : Int) + x < (l0.length : Int) + 8) = True := eq_true (by omega)
                                          have q6 : ((l1.length : Int) + x < (l1.length : Int) + 8) = True := eq_true (by omega)
                                          have q7 : (x < 8) = True := eq_true hlt
                                          have hwx : wrap64 (x + 1) = x + 1 := by unfold wrap64; omega
                                          have hwy : IntKind.i64.wrap (x + 1) = x + 1 := by rw [IntKind.wrap_i64]; omega
                                          cases gk with
                                          | zero => omega
                                          | succ k1 =>
                                            go_wp2
                                            repeat (go_quiet (fail); try go_wp2)
                                            go_roundg k1
                                            case measure => omega
                                            case rel => exact ⟨x + 1, by first | rfl | (simp [hwx, hwy]; done) | (simp [*]; done), ⟨by omega⟩, ⟨by omega⟩, HB3, K5, K6⟩
                                        · have dlt : decide (x < 8) = false := decide_eq_false hlt
                                          go_wp2
                                          go_ret
                                          exact ⟨rfl, HB3.out⟩
    · replace c6 := Bool.eq_false_iff.mpr c6
      subst c6
      have H1 : ((psephoslaw01_awake.f k).bind fun t157 => (some t157)) = some r := by rw [if_neg (show ¬ (false = true) by decide)] at H; exact H
      clear H
      have H := H1
      clear H1
      replace H := Option.bind_eq_some_iff.mp H
      obtain ⟨t157, A250, H⟩ := H
      replace H : (some t157) = some r := H
      have A25 := Aside0.mk A250
      clear A250
      obtain rfl := Option.some.inj H
      go_enter Try.func12, Try.ntmps12
      go_wp2_with (first | ((with_reducible refine gate_callee (f := 21) rfl ?_); refine goesL_ (some 17) rfl rfl Try.func21 (by kernel_rfl) rfl #[] rfl (by (try simp only [List.map_toArray, List.map_cons, List.map_nil]); first | done | rfl | (simp only [List.length_drop, List.length_take]; rfl)) ?_; (with_reducible refine (psephoslaw01_awake.calls k  true _ A3.out).mono ?_); rintro e w26 ⟨rfl, hb⟩; refine ⟨_, rfl, ?_⟩; have n0_ := Aside0.mk (Kd.V_below (by (with_reducible repeat (first | apply Kd.V_alloc | apply Kd.V_drewN | apply Kd.V_drew)); exact HO0.out) hb); have n1_ := Aside0.mk (Kd.V_below (by (with_reducible repeat (first | apply Kd.V_alloc | apply Kd.V_drewN | apply Kd.V_drew)); exact HO1.out) hb); have n2_ := Aside0.mk (below_step (by repeat (first | (with_reducible first | exact HB.out | apply below_alloc | apply pw_below_drewN | apply below_drew1) | exact HB.out)) hb); clear HO0; clear HO1; clear HB; have HO0 := n0_; have HO1 := n1_; have HB := n2_; clear n0_ n1_ n2_; (try clear hb); (try clear hb2); (try clear hk); (try clear hi)) | ((with_reducible refine gate_dst (N := 22) rfl ?_); (try (refine gate_guard (by rfl) ?_; dsimp only)); refine Kd.N_lit (Kd.slice 59 (Kd.int .u32)) _ 30 ?hg (N' := 22) ?hd (xs := ([l0, l1] : List (List Int))) (inner := [.slice A0 l0.length c0, .slice A1 l1.length c1]) (ok := (fun k_ => ((P0_ k_ ∨ P1_ k_) ∨ w.heap.size ≤ k_))) (okp := (fun k_ => ((P0_ k_ ∨ P1_ k_) ∨ w.heap.size ≤ k_))) ?hr ?hp (fun _ hk => hk) ((show ∀ k_, w26.heap.size ≤ k_ → (fun k_ => ((P0_ k_ ∨ P1_ k_) ∨ w.heap.size ≤ k_)) k_ from fun k_ hk => (.inr (Nat.le_trans (below_size (by repeat (first | (with_reducible first | exact HB.out | apply below_alloc | apply pw_below_drewN | apply below_drew1) | exact HB.out))) hk))) _ (Nat.le_refl _)) (Below.refl _ _) (Nat.le_refl _) (by simp) ?_; (case hd => rfl); (case hg => rfl); (case hr => first | (go_simp; done) | (go_simp; rfl)); (case hp => exact (Reps.one (show Kd.FK (Kd.slice 59 (Kd.int .u32)) _ _ l0 [.slice A0 l0.length c0] from (Kd.FK_slice_mk (Kd.V_reads' (Kd.V_mono (ok' := (fun k_ => ((P0_ k_ ∨ P1_ k_) ∨ w.heap.size ≤ k_))) (HO0.out) (fun k_ hk => hk))).2.1 (Kd.V_F (Kd.V_mono (ok' := (fun k_ => ((P0_ k_ ∨ P1_ k_) ∨ w.heap.size ≤ k_))) (HO0.out) (fun k_ hk => hk))))) (Reps.one (show Kd.FK (Kd.slice 59 (Kd.int .u32)) _ _ l1 [.slice A1 l1.length c1] from (Kd.FK_slice_mk (Kd.V_reads' (Kd.V_mono (ok' := (fun k_ => ((P0_ k_ ∨ P1_ k_) ∨ w.heap.size ≤ k_))) (HO1.out) (fun k_ hk => hk))).2.1 (Kd.V_F (Kd.V_mono (ok' := (fun k_ => ((P0_ k_ ∨ P1_ k_) ∨ w.heap.size ≤ k_))) (HO1.out) (fun k_ hk => hk))))) (Reps.none _ _)))); intro v152 w27 ho28 hb hg_ hnew_; clear hg_ hnew_; (first | rw [← Ny151.out] at ho28 | (simp only [Int.reduceToNat] at ho28; rw [← Ny151.out] at ho28)); have n0_ := Aside0.mk (Kd.V_elder' (by (with_reducible repeat (first | apply Kd.V_alloc | apply Kd.V_drewN | apply Kd.V_drew)); exact HO0.out) (Kd.N_base ho28) hb); have n1_ := Aside0.mk (Kd.V_elder' (by (with_reducible repeat (first | apply Kd.V_alloc | apply Kd.V_drewN | apply Kd.V_drew)); exact HO1.out) (Kd.N_base ho28) hb); have n2_ := Aside0.mk (Kd.N_lower ho28 (below_size (by repeat (first | (with_reducible first | exact HB.out | apply below_alloc | apply pw_below_drewN | apply below_drew1) | exact HB.out)))); have n3_ := Aside0.mk (below_step (by repeat (first | (with_reducible first | exact HB.out | apply below_alloc | apply pw_below_drewN | apply below_drew1) | exact HB.out)) hb); clear HO0; clear HO1; clear HB; have HO0 := n0_; have HO1 := n1_; have HO153 := n2_; have HB := n3_; clear n0_ n1_ n2_ n3_; clear hb ho28; obtain ⟨Ao29, co29, eo29⟩ := Kd.N_slice HO153.out; subst eo29) | (go_at_call 22; (with_reducible refine (psephoslaw01_few.calls k _ _ y151 false _ ?side1 ?side2 A5.out).mono ?_); (case side1 => repeat (first | exact (Kd.N_reads' HO153.out).2.2 | (with_reducible refine Kd.C_alloc ?_ _) | (with_reducible refine Kd.C_drewN ?_ _) | (with_reducible refine Kd.C_drew ?_))); (case side2 => exact (Kd.N_reads' HO153.out).2.1); rintro e w' ⟨rfl, ⟨nd, rfl⟩⟩) | ((with_reducible refine gate_callee (f := 21) rfl ?_); refine goesL_ (some 36) rfl rfl Try.func21 (by kernel_rfl) rfl #[] rfl (by (try simp only [List.map_toArray, List.map_cons, List.map_nil]); first | done | rfl | (simp only [List.length_drop, List.length_take]; rfl)) ?_; (with_reducible refine (psephoslaw01_awake.calls k  t157 _ A25.out).mono ?_); rintro e w30 ⟨rfl, hb⟩; refine ⟨_, rfl, ?_⟩; have n0_ := Aside0.mk (Kd.V_below (by (with_reducible repeat (first | apply Kd.V_alloc | apply Kd.V_drewN | apply Kd.V_drew)); exact HO0.out) hb); have n1_ := Aside0.mk (Kd.V_below (by (with_reducible repeat (first | apply Kd.V_alloc | apply Kd.V_drewN | apply Kd.V_drew)); exact HO1.out) hb); have n2_ := Aside0.mk (Kd.N_below (by (with_reducible repeat (first | apply Kd.N_alloc | apply Kd.N_drewN | apply Kd.N_drew)); exact HO153.out) hb); have n3_ := Aside0.mk (below_step (by repeat (first | (with_reducible first | exact HB.out | apply below_alloc | apply pw_below_drewN | apply below_drew1) | exact HB.out)) hb); clear HO0; clear HO1; clear HO153; clear HB; have HO0 := n0_; have HO1 := n1_; have HO153 := n2_; have HB := n3_; clear n0_ n1_ n2_ n3_; (try clear hb); (try clear hb2); (try clear hk); (try clear hi)))
      go_ret
      exact ⟨by first | rfl | (simp [errW_none, errW_some] <;> rfl) | (simp [*, errW_none, errW_some] <;> rfl), by repeat (first | (with_reducible first | exact HB.out | apply below_alloc | apply pw_below_drewN | apply below_drew1) | exact HB.out)⟩
  · replace c4 := Bool.eq_false_iff.mpr c4
    subst c4
    have H1 : ((psephoslaw01_awake.f k).bind fun t158 => (some t158)) = some r := by rw [if_neg (show ¬ (false = true) by decide)] at H; exact H
    clear H
    have H := H1
    clear H1
    replace H := Option.bind_eq_some_iff.mp H
    obtain ⟨t158, A310, H⟩ := H
    replace H : (some t158) = some r := H
    have A31 := Aside0.mk A310
    clear A310
    obtain rfl := Option.some.inj H
    go_enter Try.func12, Try.ntmps12
    go_wp2_with (first | ((with_reducible refine gate_callee (f := 21) rfl ?_); refine goesL_ (some 17) rfl rfl Try.func21 (by kernel_rfl) rfl #[] rfl (by (try simp only [List.map_toArray, List.map_cons, List.map_nil]); first | done | rfl | (simp only [List.length_drop, List.length_take]; rfl)) ?_; (with_reducible refine (psephoslaw01_awake.calls k  false _ A3.out).mono ?_); rintro e w32 ⟨rfl, hb⟩; refine ⟨_, rfl, ?_⟩; have n0_ := Aside0.mk (Kd.V_below (by (with_reducible repeat (first | apply Kd.V_alloc | apply Kd.V_drewN | apply Kd.V_drew)); exact HO0.out) hb); have n1_ := Aside0.mk (Kd.V_below (by (with_reducible repeat (first | apply Kd.V_alloc | apply Kd.V_drewN | apply Kd.V_drew)); exact HO1.out) hb); have n2_ := Aside0.mk (below_step (by repeat (first | (with_reducible first | exact HB.out | apply below_alloc | apply pw_below_drewN | apply below_drew1) | exact HB.out)) hb); clear HO0; clear HO1; clear HB; have HO0 := n0_; have HO1 := n1_; have HB := n2_; clear n0_ n1_ n2_; (try clear hb); (try clear hb2); (try clear hk); (try clear hi)) | ((with_reducible refine gate_callee (f := 21) rfl ?_); refine goesL_ (some 36) rfl rfl Try.func21 (by kernel_rfl) rfl #[] rfl (by (try simp only [List.map_toArray, List.map_cons, List.map_nil]); first | done | rfl | (simp only [List.length_drop, List.length_take]; rfl)) ?_; (with_reducible refine (psephoslaw01_awake.calls k  t158 _ A31.out).mono ?_); rintro e w33 ⟨rfl, hb⟩; refine ⟨_, rfl, ?_⟩; have n0_ := Aside0.mk (Kd.V_below (by (with_reducible repeat (first | apply Kd.V_alloc | apply Kd.V_drewN | apply Kd.V_drew)); exact HO0.out) hb); have n1_ := Aside0.mk (Kd.V_below (by (with_reducible repeat (first | apply Kd.V_alloc | apply Kd.V_drewN | apply Kd.V_drew)); exact HO1.out) hb); have n2_ := Aside0.mk (below_step (by repeat (first | (with_reducible first | exact HB.out | apply below_alloc | apply pw_below_drewN | apply below_drew1) | exact HB.out)) hb); clear HO0; clear HO1; clear HB; have HO0 := n0_; have HO1 := n1_; have HB := n2_; clear n0_ n1_ n2_; (try clear hb); (try clear hb2); (try clear hk); (try clear hi)))
    go_ret
    exact ⟨by first | rfl | (simp [errW_none, errW_some] <;> rfl) | (simp [*, errW_none, errW_some] <;> rfl), by repeat (first | (with_reducible first | exact HB.out | apply below_alloc | apply pw_below_drewN | apply below_drew1) | exact HB.out)⟩

/-- THE ONE PURE STATEMENT of psephoslaw01_LimbKeeps: yours. -/
def psephoslaw01_LimbKeeps.Pure : Prop := ∀ (l0 : List Int) (l1 : List Int), l0.length ≤ maxLen → l0.length * 4 ≤ 140737488351232 → (∀ x ∈ l0, (Lit.int .u32 x).wf = true) → l1.length ≤ maxLen → l1.length * 4 ≤ 140737488351232 → (∀ x ∈ l1, (Lit.int .u32 x).wf = true) → ∃ k, psephoslaw01_LimbKeeps.f k l0 l1 = some true
theorem psephoslaw01_LimbKeeps.walk (P : psephoslaw01_LimbKeeps.Pure) (a0 : Option Addr) (len0 cap0 : Nat) (z0 : List Int) (a1 : Option Addr) (len1 cap1 : Nat) (z1 : List Int) (w : World) (w0 : (a0 = none ∧ len0 = 0 ∧ cap0 = 0 ∧ z0 = []) ∨ ∃ x, a0 = some x ∧ len0 ≤ cap0 ∧ cap0 ≤ maxLen ∧ z0.length = cap0 ∧ (∀ i, i < z0.length → w.cell? (x.add i) = some (.int .u32 (z0.getD i 0))) ∧ ∀ n ∈ z0, (Lit.int .u32 n).wf = true) (y0 : len0 * 4 ≤ 140737488351232) (w1 : (a1 = none ∧ len1 = 0 ∧ cap1 = 0 ∧ z1 = []) ∨ ∃ x, a1 = some x ∧ len1 ≤ cap1 ∧ cap1 ≤ maxLen ∧ z1.length = cap1 ∧ (∀ i, i < z1.length → w.cell? (x.add i) = some (.int .u32 (z1.getD i 0))) ∧ ∀ n ∈ z1, (Lit.int .u32 n).wf = true) (y1 : len1 * 4 ≤ 140737488351232) :
    Calls Try.prog 12 #[.slice a0 len0 cap0, .slice a1 len1 cap1] w fun e w' => e = .returned (.bool true) ∧ Below w.heap.size w w' := by
  obtain ⟨l0, rfl, hr0, hm0, hw0, hc0⟩ := ReadsInt.ofRowC w0
  obtain ⟨l1, rfl, hr1, hm1, hw1, hc1⟩ := ReadsInt.ofRowC w1
  obtain ⟨k, h⟩ := P l0 l1 hm0 y0 hw0 hm1 y1 hw1
  refine (psephoslaw01_LimbKeeps.calls k (fun _ => True) _ _ l0 (fun _ => True) _ _ l1 true w (Kd.V_mk hc0 (F_all (Kd.C_of_reads (d := (0 : Int)) (h1 := fun _ => rfl) hr0))) (Kd.V_mk hc1 (F_all (Kd.C_of_reads (d := (0 : Int)) (h1 := fun _ => rfl) hr1))) h).mono ?_
  rintro e w' ⟨rfl, hd⟩
  exact ⟨rfl, hd⟩

end Go.Proofs.Ytapmhmkekkhhpaa.PLimbKeeps
