/- Walks and their mathematics, merged. No conditions beyond those written. -/
import Derived.Test.YtcfpoicmlldbgaaGreatWmEngineNil1
import Derived.ChangeArms
import Derived.DataReads
import Derived.OpenShut
import Derived.ChangeSlices
import Derived.Below
/- Arguments opened: what a value that reads «as» data says of the memory. Conditions: the types' descriptions, written with each theorem. -/
namespace Go.Proofs.Wk
open Go.RowKit
set_option linter.unusedVariables false
set_option linter.unusedSimpArgs false
theorem addAdd (a : Addr) (m n : Nat) : a.add (m + n) = (a.add m).add n := by
  unfold Go.Addr.add
  by_cases hm : m = 0
  · subst hm; simp
  · by_cases hn : n = 0
    · subst hn; simp [hm]
    · rw [if_neg (by omega), if_neg hm, if_neg hn]; simp [Nat.add_assoc]
abbrev Rel (α : Type) := World → α → List Value → Prop
def RSl {α : Type} (R : Rel α) (sz : Nat) : Rel (List α) := fun W l cs => ∃ A c, cs = [.slice A l.length c] ∧ Rows R sz l A c W
def RPair {α β : Type} (R : Rel α) (S : Rel β) : Rel (α × β) := fun W x cs => ∃ c1 c2, cs = c1 ++ c2 ∧ R W x.1 c1 ∧ S W x.2 c2
section
variable {H : Type} {enc : TypeId × Value → H} {P : Program} {W : World} {base : Nat} {sp : Nat → Bool} {held : Bool} {α β γ δ : Type}
def Opn (enc : TypeId × Value → H) (P : Program) (W : World) (base : Nat) (sp : Nat → Bool) (held : Bool) (t : TypeId) (R : Rel α) (G : α → Prop) : Prop :=
  ∀ fuel cs x, DataW.trod enc P W base sp held fuel t cs = some x → ∃ a, R W a cs ∧ G a
theorem opn_int {t : TypeId} {k : IntKind} (ht : P.underlying t = some (.int k)) : Opn enc P W base sp held t (RInt k) (fun n => (Lit.int k n).wf = true) := by
  intro fuel cs x h
  obtain ⟨n, rfl, _, hw⟩ := DataW.trod_int ht h
  exact ⟨n, rfl, hw⟩
theorem chooseLen {R : Nat → α → Prop} : ∀ (n : Nat), (∀ i, i < n → ∃ a, R i a) → ∃ xs : List α, xs.length = n ∧ ∀ i a, xs[i]? = some a → R i a
  | 0, _ => ⟨[], rfl, fun i a h => by simp at h⟩
  | n + 1, h => by
    obtain ⟨xs, hl, hx⟩ := chooseLen n (fun i hi => h i (by omega))
    obtain ⟨a, ha⟩ := h n (by omega)
    refine ⟨xs ++ [a], by simp [hl], fun i b hb => ?_⟩
    rcases Nat.lt_or_ge i xs.length with hi | hi
    · rw [List.getElem?_append_left hi] at hb; exact hx i b hb
    · have : i = n := by
        have := (List.getElem?_eq_some_iff.1 hb).1
        simp [hl] at this; omega
      subst this
      rw [List.getElem?_append_right (by omega), hl] at hb
      simp at hb; subst hb; exact ha
theorem opn_slice {t e : TypeId} {R : Rel α} {sz : Nat} {G : α → Prop} (ht : P.underlying t = some (.slice e)) (hs : P.cellsOf e = sz) (he : Opn enc P W base sp held e R G) :
    Opn enc P W base sp held t (RSl R sz) (fun xs => ∀ a ∈ xs, G a) := by
  intro fuel cs x h
  rcases DataW.trod_slice ht h with ⟨rfl, _⟩ | ⟨a, len, cap, elems, rest, n, _, rfl, _, hb, hl, hm, hlen, hel, _, _⟩
  · exact ⟨[], ⟨none, 0, rfl, Rows.nil _ _ _ _ _⟩, by simp⟩
  · have each : ∀ i, i < len → ∃ y : α, (∃ c, c.length = sz ∧ R W y c ∧ ∀ j u, c[j]? = some u → W.cell? (a.add (i * sz + j)) = some u) ∧ G y := by
      intro i hi
      have h1 := hel i hi
      rw [List.getElem?_eq_getElem (by omega), hs] at h1
      obtain ⟨c, hc, hy⟩ := Option.bind_eq_some_iff.1 h1
      obtain ⟨y, hK, hG⟩ := he _ _ _ hy
      obtain ⟨_, hcl, hcc⟩ := World.cells?_some hc
      refine ⟨y, ⟨c, hcl, hK, fun j u hu => ?_⟩, hG⟩
      have hj : j < sz := by rw [← hcl]; exact (List.getElem?_eq_some_iff.1 hu).1
      rw [← hu, ← hcc j hj, addAdd]
    obtain ⟨xs, hxl, hx⟩ := chooseLen len each
    refine ⟨xs, ⟨some a, cap, by rw [hxl], by omega, by rw [hxl]; exact Nat.le_trans hl hm, fun j p hp => ?_⟩, fun y hy => ?_⟩
    · obtain ⟨c, h1, h2, h3⟩ := (hx j p hp).1
      exact ⟨a, c, rfl, h1, h2, h3⟩
    · obtain ⟨i, hi⟩ := List.getElem?_of_mem hy
      exact (hx i y hi).2
theorem cutTwo (cs : List Value) {m n : Nat} (h : cs.length = m + n) : cs = (cs.drop 0).take m ++ (cs.drop m).take n := by
  rw [List.drop_zero, List.take_of_length_le (l := cs.drop m) (by rw [List.length_drop]; omega), List.take_append_drop]
theorem okw_agg {r : Reach} {b0 : Nat} {t : TypeId} {fs : Array Field} {v : Value} (ht : P.underlying t = some (.struct fs)) (h : Value.okWide P W r b0 t v) : ∃ cs, v = .agg cs := by
  unfold Value.okWide at h
  rw [ht] at h
  obtain ⟨cs, rfl, _⟩ := h
  exact ⟨cs, rfl⟩
/-- A parameter. -/
theorem opn_arg {t : TypeId} {R : Rel α} {G : α → Prop} {v : Value} {y : DataW H} {p : List MemPlace} (h : Opn enc P W base sp held t R G) (hd : DataW.Trod enc P W base sp held t v y p) : ∃ a, R W a v.cells.toList ∧ G a := by
  obtain ⟨fuel, hf⟩ := hd
  exact h _ _ _ hf
/-! ### What holds, holds later -/
/-- A contract, where the row's walk ends. -/
theorem Ct.row {f : FuncId} {args : Array Value} {pre : World → Prop} {r : α → Value} {p : α → Prop} {Ψ : α → World → Prop} (h : Ct P f args pre r p Ψ) (hp : ∀ w', Keep (fun _ => False) W w' → pre w') : Calls P f args W (fun e w' => (∃ x, e = .returned (r x) ∧ p x) ∧ Below W.heap.size W w') :=
  (h (fun _ => False) W (fun _ e => e.elim) hp).mono fun e w' ⟨x, e1, e2, k, _⟩ => ⟨⟨x, e1, e2⟩, ⟨k.os, k.tape, k.output, k.size, fun i hi => k.block i hi id⟩⟩
end
end Go.Proofs.Wk
/- Rows of arguments: a struct of seven fields. -/
namespace Go.Proofs.Wk
open Go.RowKit
set_option linter.unusedVariables false
set_option linter.unusedSimpArgs false
section
variable {H : Type} {enc : TypeId × Value → H} {P : Program} {W : World} {base : Nat} {sp : Nat → Bool} {held : Bool} {α0 α1 α2 α3 α4 α5 α6 : Type}
theorem opn_struct7 {t : TypeId} {f0 f1 f2 f3 f4 f5 f6 : Field} {d0 : Rel α0} {d1 : Rel α1} {d2 : Rel α2} {d3 : Rel α3} {d4 : Rel α4} {d5 : Rel α5} {d6 : Rel α6} {z0 z1 z2 z3 z4 z5 z6 : Nat} {G0 : α0 → Prop} {G1 : α1 → Prop} {G2 : α2 → Prop} {G3 : α3 → Prop} {G4 : α4 → Prop} {G5 : α5 → Prop} {G6 : α6 → Prop} (ht : P.underlying t = some (.struct #[f0, f1, f2, f3, f4, f5, f6]))
    (h0 : Opn enc P W base sp held f0.type d0 G0) (h1 : Opn enc P W base sp held f1.type d1 G1) (h2 : Opn enc P W base sp held f2.type d2 G2) (h3 : Opn enc P W base sp held f3.type d3 G3) (h4 : Opn enc P W base sp held f4.type d4 G4) (h5 : Opn enc P W base sp held f5.type d5 G5) (h6 : Opn enc P W base sp held f6.type d6 G6) (o0 : f0.offset = 0) (o1 : f1.offset = z0) (o2 : f2.offset = z0 + z1) (o3 : f3.offset = z0 + z1 + z2) (o4 : f4.offset = z0 + z1 + z2 + z3) (o5 : f5.offset = z0 + z1 + z2 + z3 + z4) (o6 : f6.offset = z0 + z1 + z2 + z3 + z4 + z5)
    (c0 : P.cellsOf f0.type = z0) (c1 : P.cellsOf f1.type = z1) (c2 : P.cellsOf f2.type = z2) (c3 : P.cellsOf f3.type = z3) (c4 : P.cellsOf f4.type = z4) (c5 : P.cellsOf f5.type = z5) (c6 : P.cellsOf f6.type = z6) (ct : P.cellsOf t = z0 + (z1 + (z2 + (z3 + (z4 + (z5 + z6)))))) :
    Opn enc P W base sp held t (RPair d0 (RPair d1 (RPair d2 (RPair d3 (RPair d4 (RPair d5 d6)))))) (fun x => G0 x.1 ∧ G1 x.2.1 ∧ G2 x.2.2.1 ∧ G3 x.2.2.2.1 ∧ G4 x.2.2.2.2.1 ∧ G5 x.2.2.2.2.2.1 ∧ G6 x.2.2.2.2.2.2) := by
  intro fuel cs x h
  obtain ⟨xs, n, _, _, hl, hxl, hf⟩ := DataW.trod_struct ht h
  have e0 := hf 0 f0 rfl
  have e1 := hf 1 f1 rfl
  have e2 := hf 2 f2 rfl
  have e3 := hf 3 f3 rfl
  have e4 := hf 4 f4 rfl
  have e5 := hf 5 f5 rfl
  have e6 := hf 6 f6 rfl
  have hl2 : xs.length = 7 := hxl
  rw [List.getElem?_eq_getElem (by omega)] at e0 e1 e2 e3 e4 e5 e6
  obtain ⟨a0, k0, g0⟩ := h0 _ _ _ e0
  obtain ⟨a1, k1, g1⟩ := h1 _ _ _ e1
  obtain ⟨a2, k2, g2⟩ := h2 _ _ _ e2
  obtain ⟨a3, k3, g3⟩ := h3 _ _ _ e3
  obtain ⟨a4, k4, g4⟩ := h4 _ _ _ e4
  obtain ⟨a5, k5, g5⟩ := h5 _ _ _ e5
  obtain ⟨a6, k6, g6⟩ := h6 _ _ _ e6
  rw [o0, c0] at k0
  rw [o1, c1] at k1
  rw [o2, c2] at k2
  rw [o3, c3] at k3
  rw [o4, c4] at k4
  rw [o5, c5] at k5
  rw [o6, c6] at k6
  have hd2 : cs.drop (z0 + z1) = ((cs.drop z0).drop z1) := by simp only [List.drop_drop, Nat.add_assoc]
  rw [hd2] at k2
  have hd3 : cs.drop (z0 + z1 + z2) = (((cs.drop z0).drop z1).drop z2) := by simp only [List.drop_drop, Nat.add_assoc]
  rw [hd3] at k3
  have hd4 : cs.drop (z0 + z1 + z2 + z3) = ((((cs.drop z0).drop z1).drop z2).drop z3) := by simp only [List.drop_drop, Nat.add_assoc]
  rw [hd4] at k4
  have hd5 : cs.drop (z0 + z1 + z2 + z3 + z4) = (((((cs.drop z0).drop z1).drop z2).drop z3).drop z4) := by simp only [List.drop_drop, Nat.add_assoc]
  rw [hd5] at k5
  have hd6 : cs.drop (z0 + z1 + z2 + z3 + z4 + z5) = ((((((cs.drop z0).drop z1).drop z2).drop z3).drop z4).drop z5) := by simp only [List.drop_drop, Nat.add_assoc]
  rw [hd6] at k6
  have s5 := cutTwo (((((cs.drop z0).drop z1).drop z2).drop z3).drop z4) (m := z5) (n := z6) (by (try simp only [List.length_drop]); omega)
  rw [List.drop_zero] at s5
  have s4 := cutTwo ((((cs.drop z0).drop z1).drop z2).drop z3) (m := z4) (n := z5 + z6) (by (try simp only [List.length_drop]); omega)
  rw [List.drop_zero, List.take_of_length_le (l := (((((cs.drop z0).drop z1).drop z2).drop z3).drop z4)) (by (try simp only [List.length_drop]); omega)] at s4
  have s3 := cutTwo (((cs.drop z0).drop z1).drop z2) (m := z3) (n := z4 + (z5 + z6)) (by (try simp only [List.length_drop]); omega)
  rw [List.drop_zero, List.take_of_length_le (l := ((((cs.drop z0).drop z1).drop z2).drop z3)) (by (try simp only [List.length_drop]); omega)] at s3
  have s2 := cutTwo ((cs.drop z0).drop z1) (m := z2) (n := z3 + (z4 + (z5 + z6))) (by (try simp only [List.length_drop]); omega)
  rw [List.drop_zero, List.take_of_length_le (l := (((cs.drop z0).drop z1).drop z2)) (by (try simp only [List.length_drop]); omega)] at s2
  have s1 := cutTwo (cs.drop z0) (m := z1) (n := z2 + (z3 + (z4 + (z5 + z6)))) (by (try simp only [List.length_drop]); omega)
  rw [List.drop_zero, List.take_of_length_le (l := ((cs.drop z0).drop z1)) (by (try simp only [List.length_drop]); omega)] at s1
  have s0 := cutTwo cs (m := z0) (n := z1 + (z2 + (z3 + (z4 + (z5 + z6))))) (by (try simp only [List.length_drop]); omega)
  rw [List.take_of_length_le (l := (cs.drop z0)) (by (try simp only [List.length_drop]); omega)] at s0
  exact ⟨(a0, a1, a2, a3, a4, a5, a6), ⟨_, _, s0, k0, ⟨_, _, s1, k1, ⟨_, _, s2, k2, ⟨_, _, s3, k3, ⟨_, _, s4, k4, ⟨_, _, s5, k5, k6⟩⟩⟩⟩⟩⟩, g0, g1, g2, g3, g4, g5, g6⟩
end
end Go.Proofs.Wk
