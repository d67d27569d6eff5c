/- A list of whole numbers that a value leads to, told without its blocks: what keeps it. Conditions stand with each. -/
import Derived.Test.YtapmhmkekkhhpaaVLimbKeeps
import Derived.Test.YtapmhmkekkhhpaaMyWordsLimbKeeps
namespace Go.Proofs.YtapmhmkekkhhpaaW.PrintMore
open Go.RowKit Go.Proofs.YtapmhmkekkhhpaaW.PrintWords Go.Proofs.YtapmhmkekkhhpaaW.PrintLast
set_option linter.unusedVariables false
set_option linter.unusedSimpArgs false
/-- The value reads as this list. -/
def RV (k : IntKind) (W : World) (v : Value) (xs : List Int) : Prop := Kd.V (Kd.int k) 0 W 0 (fun _ => True) v xs
section
variable {k : IntKind} {W W1 : World} {e b g : Nat} {ok : Nat → Prop} {v : Value} {xs : List Int} {A : Option Addr} {n c : Nat}
theorem RV.of_V (h : Kd.V (Kd.int k) e W b ok v xs) : RV k W v xs := Kd.V_mono h (fun _ _ => trivial)
theorem RV.of_R (h : Kd.R (Kd.int k) e W b ok v xs) : RV k W v xs := RV.of_V (Kd.R_V (base' := 0) h)
theorem RV.V (h : RV k W v xs) : Kd.V (Kd.int k) e W b (fun _ => True) v xs := h
theorem RV.below (h : RV k W v xs) (hb : Below W.heap.size W W1) : RV k W1 v xs := Kd.V_below h hb
theorem RV.slice (h : RV k W v xs) : ∃ A c, v = .slice A xs.length c := Kd.V_slice h
theorem RV.C (h : RV k W (.slice A n c) xs) : Kd.C (Kd.int k) W A xs.length xs := (Kd.V_reads' h).2.2
theorem RV.le (h : RV k W (.slice A xs.length c) xs) : xs.length ≤ c := (Kd.V_reads' h).2.1
/-- A store into a block that holds no such numbers leaves it. -/
theorem RV.set {cs : Array Value} {t : TypeId} (h : RV k W v xs) (hb : W.heap[g]? = some (.cells cs t (0, 0))) (hc : ∀ (i : Nat) (u : Value), cs[i]? = some u → ∀ m : Int, u ≠ Value.int k m) (j : Nat) (u : Value) : RV k (W.setCell ⟨g, j, none⟩ u) v xs := by
  obtain ⟨A, c, rfl⟩ := RV.slice h
  have h2 := Kd.V_reads' h
  refine Kd.V_mono (Kd.V_mk h2.2.1 (F_all ?_)) (fun _ _ => trivial)
  have hC := h2.2.2
  refine ⟨hC.1, hC.2.1, fun hn => ?_⟩
  obtain ⟨ad, e1, hrow⟩ := hC.2.2 hn
  refine ⟨ad, e1, fun i p hp => ?_⟩
  obtain ⟨d, hd1, hd2, hd3⟩ := hrow i p hp
  refine ⟨d, hd1, hd2, fun q y hy => ?_⟩
  have hcell := hd3 q y hy
  have hd : d = [.int k p] := hd2
  have hy2 : y = .int k p := by
    rw [hd] at hy
    rcases q with _ | q
    · simpa using hy.symm
    · simp at hy
  by_cases hbk : (ad.add (i * (Kd.int k).sz + q)).block = g
  · exfalso
    unfold World.cell? at hcell
    rw [hbk, hb] at hcell
    simp only at hcell
    split at hcell
    · cases hcell
    · exact hc _ _ hcell p hy2
  · exact (cell_far (p := ⟨g, j, none⟩) hbk u).trans hcell
end
/-- A block that was made stands, whatever is made behind it. -/
theorem blk_new {X W : World} {o : Obj} (hb : Below (X.alloc o).heap.size (X.alloc o) W) : W.heap[X.heap.size]? = some o := blk_below (heap_alloc_new X o) hb
theorem alloc_size (X : World) (o : Obj) : (X.alloc o).heap.size = X.heap.size + 1 := by simp

/-! Two boxes of two slices each, made and filled in one statement that draws its order. -/
section
variable {w wc W2 : World} {t : TypeId} {g5 g6 : Nat} {l1 l2 l3 l4 : List Int} {X1 X2 X3 X4 : Option Addr} {y1 y2 y3 y4 : Nat}
def Rel3 (w wc : World) (t : TypeId) (l1 l2 l3 l4 : List Int) (s5 s6 : Value) (wx : World) : Prop :=
  ∃ (g5 g6 : Nat) (X1 : Option Addr) (y1 : Nat) (X2 : Option Addr) (y2 : Nat) (X3 : Option Addr) (y3 : Nat) (X4 : Option Addr) (y4 : Nat), s5 = .pointer (some ⟨g5, 0, none⟩) ∧ s6 = .pointer (some ⟨g6, 0, none⟩) ∧ Below w.heap.size w wx ∧ Below wc.heap.size wc wx ∧
    wx.heap[g5]? = some (.cells #[.slice X1 l1.length y1, .slice X2 l2.length y2] t (0, 0)) ∧ wx.heap[g6]? = some (.cells #[.slice X3 l3.length y3, .slice X4 l4.length y4] t (0, 0)) ∧
    RV .u32 wx (.slice X1 l1.length y1) l1 ∧ RV .u32 wx (.slice X2 l2.length y2) l2 ∧ RV .u32 wx (.slice X3 l3.length y3) l3 ∧ RV .u32 wx (.slice X4 l4.length y4) l4
theorem no_num (c : Array Value) (hc : ∀ u ∈ c.toList, ∃ A n q, u = .slice A n q) (k : IntKind) : ∀ (i : Nat) (u : Value), c[i]? = some u → ∀ m : Int, u ≠ Value.int k m := by
  intro i u hu m e
  have h1 : u ∈ c.toList := by rw [← Array.getElem?_toList] at hu; exact List.mem_of_getElem? hu
  obtain ⟨A, n, q, e2⟩ := hc u h1
  rw [e2] at e; cases e
/-- A block of two slices is filled. -/
theorem fill2 {W : World} {g : Nat} {A B : Option Addr} {m n p q : Nat} (hk : W.heap[g]? = some (.cells #[.slice none 0 0, .slice none 0 0] t (0, 0))) :
    ((W.setCell ⟨g, 0, none⟩ (.slice A m p)).setCell ⟨g, 1, none⟩ (.slice B n q)).heap[g]? = some (.cells #[.slice A m p, .slice B n q] t (0, 0)) ∧
    (∀ v xs, RV .u32 W v xs → RV .u32 ((W.setCell ⟨g, 0, none⟩ (.slice A m p)).setCell ⟨g, 1, none⟩ (.slice B n q)) v xs) ∧
    (∀ (g' : Nat) (o : Obj), g' ≠ g → W.heap[g']? = some o → ((W.setCell ⟨g, 0, none⟩ (.slice A m p)).setCell ⟨g, 1, none⟩ (.slice B n q)).heap[g']? = some o) ∧
    (∀ (u : World), Below u.heap.size u W → u.heap.size ≤ g → Below u.heap.size u ((W.setCell ⟨g, 0, none⟩ (.slice A m p)).setCell ⟨g, 1, none⟩ (.slice B n q))) := by
  have k1 : (W.setCell ⟨g, 0, none⟩ (.slice A m p)).heap[g]? = some (.cells #[.slice A m p, .slice none 0 0] t (0, 0)) := blk_put (cs := #[.slice none 0 0, .slice none 0 0]) hk 0 _ rfl
  refine ⟨blk_put (cs := #[.slice A m p, .slice none 0 0]) k1 1 _ rfl, fun v xs h => ?_, fun g' o hne hb => ?_, fun u hb hle => below_set (below_set hb hle) hle⟩
  · exact RV.set (RV.set h hk (no_num _ (by simp) _) 0 _) k1 (no_num _ (by simp) _) 1 _
  · exact (Below.heap_setCell _ ⟨g, 1, none⟩ _ g' hne).trans ((Below.heap_setCell _ ⟨g, 0, none⟩ _ g' hne).trans hb)
theorem rel3_C1 (hw : Below w.heap.size w wc) (hc : Below wc.heap.size wc W2) (k5 : W2.heap[g5]? = some (.cells #[.slice none 0 0, .slice none 0 0] t (0, 0))) (k6 : W2.heap[g6]? = some (.cells #[.slice none 0 0, .slice none 0 0] t (0, 0))) (hne : g5 ≠ g6) (h5 : wc.heap.size ≤ g5) (h6 : wc.heap.size ≤ g6)
    (r1 : RV .u32 W2 (.slice X1 l1.length y1) l1) (r2 : RV .u32 W2 (.slice X2 l2.length y2) l2) (r3 : RV .u32 W2 (.slice X3 l3.length y3) l3) (r4 : RV .u32 W2 (.slice X4 l4.length y4) l4) :
    Rel3 w wc t l1 l2 l3 l4 (.pointer (some ⟨g5, 0, none⟩)) (.pointer (some ⟨g6, 0, none⟩)) ((((W2.setCell ⟨g5, 0, none⟩ (.slice X1 l1.length y1)).setCell ⟨g5, 1, none⟩ (.slice X2 l2.length y2)).setCell ⟨g6, 0, none⟩ (.slice X3 l3.length y3)).setCell ⟨g6, 1, none⟩ (.slice X4 l4.length y4)) := by
  have hws := hw.size
  obtain ⟨a1, a2, a3, a4⟩ := fill2 (A := X1) (m := l1.length) (p := y1) (B := X2) (n := l2.length) (q := y2) k5
  obtain ⟨b1, b2, b3, b4⟩ := fill2 (A := X3) (m := l3.length) (p := y3) (B := X4) (n := l4.length) (q := y4) (a3 g6 _ (Ne.symm hne) k6)
  exact ⟨g5, g6, X1, y1, X2, y2, X3, y3, X4, y4, rfl, rfl, b4 _ (a4 _ (below_step hw hc) (by omega)) (by omega), b4 _ (a4 _ hc h5) h6, b3 _ _ hne a1, b1, b2 _ _ (a2 _ _ r1), b2 _ _ (a2 _ _ r2), b2 _ _ (a2 _ _ r3), b2 _ _ (a2 _ _ r4)⟩
theorem rel3_C2 (hw : Below w.heap.size w wc) (hc : Below wc.heap.size wc W2) (k5 : W2.heap[g5]? = some (.cells #[.slice none 0 0, .slice none 0 0] t (0, 0))) (k6 : W2.heap[g6]? = some (.cells #[.slice none 0 0, .slice none 0 0] t (0, 0))) (hne : g5 ≠ g6) (h5 : wc.heap.size ≤ g5) (h6 : wc.heap.size ≤ g6)
    (r1 : RV .u32 W2 (.slice X1 l1.length y1) l1) (r2 : RV .u32 W2 (.slice X2 l2.length y2) l2) (r3 : RV .u32 W2 (.slice X3 l3.length y3) l3) (r4 : RV .u32 W2 (.slice X4 l4.length y4) l4) :
    Rel3 w wc t l1 l2 l3 l4 (.pointer (some ⟨g5, 0, none⟩)) (.pointer (some ⟨g6, 0, none⟩)) ((((W2.setCell ⟨g6, 0, none⟩ (.slice X3 l3.length y3)).setCell ⟨g6, 1, none⟩ (.slice X4 l4.length y4)).setCell ⟨g5, 0, none⟩ (.slice X1 l1.length y1)).setCell ⟨g5, 1, none⟩ (.slice X2 l2.length y2)) := by
  have hws := hw.size
  obtain ⟨a1, a2, a3, a4⟩ := fill2 (A := X3) (m := l3.length) (p := y3) (B := X4) (n := l4.length) (q := y4) k6
  obtain ⟨b1, b2, b3, b4⟩ := fill2 (A := X1) (m := l1.length) (p := y1) (B := X2) (n := l2.length) (q := y2) (a3 g5 _ hne k5)
  exact ⟨g5, g6, X1, y1, X2, y2, X3, y3, X4, y4, rfl, rfl, b4 _ (a4 _ (below_step hw hc) (by omega)) (by omega), b4 _ (a4 _ hc h6) h5, b1, b3 _ _ (Ne.symm hne) a1, b2 _ _ (a2 _ _ r1), b2 _ _ (a2 _ _ r2), b2 _ _ (a2 _ _ r3), b2 _ _ (a2 _ _ r4)⟩
theorem rel3_B1 (hw : Below w.heap.size w wc) (hc : Below wc.heap.size wc W2) (k5 : W2.heap[g5]? = some (.cells #[.slice none 0 0, .slice none 0 0] t (0, 0))) (h5 : wc.heap.size ≤ g5)
    (r1 : RV .u32 W2 (.slice X1 l1.length y1) l1) (r2 : RV .u32 W2 (.slice X2 l2.length y2) l2) (r3 : RV .u32 W2 (.slice X3 l3.length y3) l3) (r4 : RV .u32 W2 (.slice X4 l4.length y4) l4) :
    Rel3 w wc t l1 l2 l3 l4 (.pointer (some ⟨g5, 0, none⟩)) (.pointer (some ⟨W2.heap.size, 0, none⟩)) (((W2.setCell ⟨g5, 0, none⟩ (.slice X1 l1.length y1)).setCell ⟨g5, 1, none⟩ (.slice X2 l2.length y2)).alloc (.cells #[.slice X3 l3.length y3, .slice X4 l4.length y4] t)) := by
  have hws := hw.size
  obtain ⟨a1, a2, a3, a4⟩ := fill2 (A := X1) (m := l1.length) (p := y1) (B := X2) (n := l2.length) (q := y2) k5
  have hn := heap_alloc_new ((W2.setCell ⟨g5, 0, none⟩ (.slice X1 l1.length y1)).setCell ⟨g5, 1, none⟩ (.slice X2 l2.length y2)) (.cells #[.slice X3 l3.length y3, .slice X4 l4.length y4] t)
  rw [World.size_setCell, World.size_setCell] at hn
  exact ⟨g5, W2.heap.size, X1, y1, X2, y2, X3, y3, X4, y4, rfl, rfl, bA_ (a4 _ (below_step hw hc) (by omega)) _, bA_ (a4 _ hc h5) _, blk_alloc a1 _, hn, RV.below (a2 _ _ r1) (bA_ (Below.refl _ _) _), RV.below (a2 _ _ r2) (bA_ (Below.refl _ _) _), RV.below (a2 _ _ r3) (bA_ (Below.refl _ _) _), RV.below (a2 _ _ r4) (bA_ (Below.refl _ _) _)⟩
theorem rel3_B2 (hw : Below w.heap.size w wc) (hc : Below wc.heap.size wc W2) (k6 : W2.heap[g6]? = some (.cells #[.slice none 0 0, .slice none 0 0] t (0, 0))) (h6 : wc.heap.size ≤ g6)
    (r1 : RV .u32 W2 (.slice X1 l1.length y1) l1) (r2 : RV .u32 W2 (.slice X2 l2.length y2) l2) (r3 : RV .u32 W2 (.slice X3 l3.length y3) l3) (r4 : RV .u32 W2 (.slice X4 l4.length y4) l4) :
    Rel3 w wc t l1 l2 l3 l4 (.pointer (some ⟨W2.heap.size, 0, none⟩)) (.pointer (some ⟨g6, 0, none⟩)) (((W2.setCell ⟨g6, 0, none⟩ (.slice X3 l3.length y3)).setCell ⟨g6, 1, none⟩ (.slice X4 l4.length y4)).alloc (.cells #[.slice X1 l1.length y1, .slice X2 l2.length y2] t)) := by
  have hws := hw.size
  obtain ⟨a1, a2, a3, a4⟩ := fill2 (A := X3) (m := l3.length) (p := y3) (B := X4) (n := l4.length) (q := y4) k6
  have hn := heap_alloc_new ((W2.setCell ⟨g6, 0, none⟩ (.slice X3 l3.length y3)).setCell ⟨g6, 1, none⟩ (.slice X4 l4.length y4)) (.cells #[.slice X1 l1.length y1, .slice X2 l2.length y2] t)
  rw [World.size_setCell, World.size_setCell] at hn
  exact ⟨W2.heap.size, g6, X1, y1, X2, y2, X3, y3, X4, y4, rfl, rfl, bA_ (a4 _ (below_step hw hc) (by omega)) _, bA_ (a4 _ hc h6) _, hn, blk_alloc a1 _, RV.below (a2 _ _ r1) (bA_ (Below.refl _ _) _), RV.below (a2 _ _ r2) (bA_ (Below.refl _ _) _), RV.below (a2 _ _ r3) (bA_ (Below.refl _ _) _), RV.below (a2 _ _ r4) (bA_ (Below.refl _ _) _)⟩
theorem rel3_A1 (hw : Below w.heap.size w wc) (hc : Below wc.heap.size wc W2)
    (r1 : RV .u32 W2 (.slice X1 l1.length y1) l1) (r2 : RV .u32 W2 (.slice X2 l2.length y2) l2) (r3 : RV .u32 W2 (.slice X3 l3.length y3) l3) (r4 : RV .u32 W2 (.slice X4 l4.length y4) l4) :
    Rel3 w wc t l1 l2 l3 l4 (.pointer (some ⟨W2.heap.size, 0, none⟩)) (.pointer (some ⟨W2.heap.size + 1, 0, none⟩)) ((W2.alloc (.cells #[.slice X1 l1.length y1, .slice X2 l2.length y2] t)).alloc (.cells #[.slice X3 l3.length y3, .slice X4 l4.length y4] t)) := by
  have hn := heap_alloc_new (W2.alloc (.cells #[.slice X1 l1.length y1, .slice X2 l2.length y2] t)) (.cells #[.slice X3 l3.length y3, .slice X4 l4.length y4] t)
  rw [alloc_size] at hn
  have hb := bA_ (bA_ (Below.refl _ W2) (.cells #[.slice X1 l1.length y1, .slice X2 l2.length y2] t)) (.cells #[.slice X3 l3.length y3, .slice X4 l4.length y4] t)
  exact ⟨W2.heap.size, W2.heap.size + 1, X1, y1, X2, y2, X3, y3, X4, y4, rfl, rfl, bA_ (bA_ (below_step hw hc) _) _, bA_ (bA_ hc _) _, blk_alloc (heap_alloc_new W2 _) _, hn, RV.below r1 hb, RV.below r2 hb, RV.below r3 hb, RV.below r4 hb⟩
theorem rel3_A2 (hw : Below w.heap.size w wc) (hc : Below wc.heap.size wc W2)
    (r1 : RV .u32 W2 (.slice X1 l1.length y1) l1) (r2 : RV .u32 W2 (.slice X2 l2.length y2) l2) (r3 : RV .u32 W2 (.slice X3 l3.length y3) l3) (r4 : RV .u32 W2 (.slice X4 l4.length y4) l4) :
    Rel3 w wc t l1 l2 l3 l4 (.pointer (some ⟨W2.heap.size + 1, 0, none⟩)) (.pointer (some ⟨W2.heap.size, 0, none⟩)) ((W2.alloc (.cells #[.slice X3 l3.length y3, .slice X4 l4.length y4] t)).alloc (.cells #[.slice X1 l1.length y1, .slice X2 l2.length y2] t)) := by
  have hn := heap_alloc_new (W2.alloc (.cells #[.slice X3 l3.length y3, .slice X4 l4.length y4] t)) (.cells #[.slice X1 l1.length y1, .slice X2 l2.length y2] t)
  rw [alloc_size] at hn
  have hb := bA_ (bA_ (Below.refl _ W2) (.cells #[.slice X3 l3.length y3, .slice X4 l4.length y4] t)) (.cells #[.slice X1 l1.length y1, .slice X2 l2.length y2] t)
  exact ⟨W2.heap.size + 1, W2.heap.size, X1, y1, X2, y2, X3, y3, X4, y4, rfl, rfl, bA_ (bA_ (below_step hw hc) _) _, bA_ (bA_ hc _) _, hn, blk_alloc (heap_alloc_new W2 _) _, RV.below r1 hb, RV.below r2 hb, RV.below r3 hb, RV.below r4 hb⟩
theorem bcell {W w1 : World} (hb : Below W.heap.size W w1) : (∀ b o, b < W.heap.size → w1.cell? ⟨b, o, none⟩ = W.cell? ⟨b, o, none⟩) ∧ (∀ b o, b < W.heap.size → w1.frozen? ⟨b, o, none⟩ = W.frozen? ⟨b, o, none⟩) :=
  ⟨fun b o h => hb.cell (p := ⟨b, o, none⟩) h, fun b o h => hb.frozen (p := ⟨b, o, none⟩) h⟩
/-- Two blocks that were made one behind the other stand. -/
theorem blk_new2 {X W : World} {o o' : Obj} (hb : Below ((X.alloc o).alloc o').heap.size ((X.alloc o).alloc o') W) : W.heap[X.heap.size]? = some o ∧ W.heap[X.heap.size + 1]? = some o' := by
  refine ⟨blk_below (blk_alloc (heap_alloc_new X o) _) hb, ?_⟩
  have h := blk_new hb
  rw [alloc_size] at h; exact h
end
end Go.Proofs.YtapmhmkekkhhpaaW.PrintMore
