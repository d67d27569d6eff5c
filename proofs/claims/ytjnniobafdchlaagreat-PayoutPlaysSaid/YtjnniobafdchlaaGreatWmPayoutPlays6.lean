/- Walks and their mathematics, merged. No conditions beyond those written. -/
import Derived.Test.YtjnniobafdchlaaGreatWmPayoutPlays5
import Derived.ChangeArms
import Derived.DataReads
import Derived.OpenShut
import Derived.ChangeSlices
import Derived.Below
/- Arguments opened: what a value that reads «as» data says of the memory. Conditions: the types' descriptions, written with each theorem. -/
namespace Go.Proofs.Wk
open Go.RowKit
set_option linter.unusedVariables false
set_option linter.unusedSimpArgs false
theorem addAdd (a : Addr) (m n : Nat) : a.add (m + n) = (a.add m).add n := by
  unfold Go.Addr.add
  by_cases hm : m = 0
  · subst hm; simp
  · by_cases hn : n = 0
    · subst hn; simp [hm]
    · rw [if_neg (by omega), if_neg hm, if_neg hn]; simp [Nat.add_assoc]
abbrev Rel (α : Type) := World → α → List Value → Prop
def RSl {α : Type} (R : Rel α) (sz : Nat) : Rel (List α) := fun W l cs => ∃ A c, cs = [.slice A l.length c] ∧ Rows R sz l A c W
def RPair {α β : Type} (R : Rel α) (S : Rel β) : Rel (α × β) := fun W x cs => ∃ c1 c2, cs = c1 ++ c2 ∧ R W x.1 c1 ∧ S W x.2 c2
section
variable {H : Type} {enc : TypeId × Value → H} {P : Program} {W : World} {base : Nat} {sp : Nat → Bool} {held : Bool} {α β γ δ : Type}
def Opn (enc : TypeId × Value → H) (P : Program) (W : World) (base : Nat) (sp : Nat → Bool) (held : Bool) (t : TypeId) (R : Rel α) (G : α → Prop) : Prop :=
  ∀ fuel cs x, DataW.trod enc P W base sp held fuel t cs = some x → ∃ a, R W a cs ∧ G a
theorem opn_int {t : TypeId} {k : IntKind} (ht : P.underlying t = some (.int k)) : Opn enc P W base sp held t (RInt k) (fun n => (Lit.int k n).wf = true) := by
  intro fuel cs x h
  obtain ⟨n, rfl, _, hw⟩ := DataW.trod_int ht h
  exact ⟨n, rfl, hw⟩
theorem chooseLen {R : Nat → α → Prop} : ∀ (n : Nat), (∀ i, i < n → ∃ a, R i a) → ∃ xs : List α, xs.length = n ∧ ∀ i a, xs[i]? = some a → R i a
  | 0, _ => ⟨[], rfl, fun i a h => by simp at h⟩
  | n + 1, h => by
    obtain ⟨xs, hl, hx⟩ := chooseLen n (fun i hi => h i (by omega))
    obtain ⟨a, ha⟩ := h n (by omega)
    refine ⟨xs ++ [a], by simp [hl], fun i b hb => ?_⟩
    rcases Nat.lt_or_ge i xs.length with hi | hi
    · rw [List.getElem?_append_left hi] at hb; exact hx i b hb
    · have : i = n := by
        have := (List.getElem?_eq_some_iff.1 hb).1
        simp [hl] at this; omega
      subst this
      rw [List.getElem?_append_right (by omega), hl] at hb
      simp at hb; subst hb; exact ha
theorem opn_slice {t e : TypeId} {R : Rel α} {sz : Nat} {G : α → Prop} (ht : P.underlying t = some (.slice e)) (hs : P.cellsOf e = sz) (he : Opn enc P W base sp held e R G) :
    Opn enc P W base sp held t (RSl R sz) (fun xs => ∀ a ∈ xs, G a) := by
  intro fuel cs x h
  rcases DataW.trod_slice ht h with ⟨rfl, _⟩ | ⟨a, len, cap, elems, rest, n, _, rfl, _, hb, hl, hm, hlen, hel, _, _⟩
  · exact ⟨[], ⟨none, 0, rfl, Rows.nil _ _ _ _ _⟩, by simp⟩
  · have each : ∀ i, i < len → ∃ y : α, (∃ c, c.length = sz ∧ R W y c ∧ ∀ j u, c[j]? = some u → W.cell? (a.add (i * sz + j)) = some u) ∧ G y := by
      intro i hi
      have h1 := hel i hi
      rw [List.getElem?_eq_getElem (by omega), hs] at h1
      obtain ⟨c, hc, hy⟩ := Option.bind_eq_some_iff.1 h1
      obtain ⟨y, hK, hG⟩ := he _ _ _ hy
      obtain ⟨_, hcl, hcc⟩ := World.cells?_some hc
      refine ⟨y, ⟨c, hcl, hK, fun j u hu => ?_⟩, hG⟩
      have hj : j < sz := by rw [← hcl]; exact (List.getElem?_eq_some_iff.1 hu).1
      rw [← hu, ← hcc j hj, addAdd]
    obtain ⟨xs, hxl, hx⟩ := chooseLen len each
    refine ⟨xs, ⟨some a, cap, by rw [hxl], by omega, by rw [hxl]; exact Nat.le_trans hl hm, fun j p hp => ?_⟩, fun y hy => ?_⟩
    · obtain ⟨c, h1, h2, h3⟩ := (hx j p hp).1
      exact ⟨a, c, rfl, h1, h2, h3⟩
    · obtain ⟨i, hi⟩ := List.getElem?_of_mem hy
      exact (hx i y hi).2
theorem cutTwo (cs : List Value) {m n : Nat} (h : cs.length = m + n) : cs = (cs.drop 0).take m ++ (cs.drop m).take n := by
  rw [List.drop_zero, List.take_of_length_le (l := cs.drop m) (by rw [List.length_drop]; omega), List.take_append_drop]
theorem opn_struct2 {t : TypeId} {f0 f1 : Field} {d0 : Rel α} {d1 : Rel β} {s0 s1 : Nat} {G0 : α → Prop} {G1 : β → Prop} (ht : P.underlying t = some (.struct #[f0, f1]))
    (h0 : Opn enc P W base sp held f0.type d0 G0) (h1 : Opn enc P W base sp held f1.type d1 G1) (o0 : f0.offset = 0) (o1 : f1.offset = s0)
    (c0 : P.cellsOf f0.type = s0) (c1 : P.cellsOf f1.type = s1) (ct : P.cellsOf t = s0 + s1) :
    Opn enc P W base sp held t (RPair d0 d1) (fun x => G0 x.1 ∧ G1 x.2) := by
  intro fuel cs x h
  obtain ⟨xs, n, _, _, hl, hxl, hf⟩ := DataW.trod_struct ht h
  have e0 := hf 0 f0 rfl; have e1 := hf 1 f1 rfl
  have hl2 : xs.length = 2 := hxl
  rw [List.getElem?_eq_getElem (by omega)] at e0 e1
  obtain ⟨a0, k0, g0⟩ := h0 _ _ _ e0
  obtain ⟨a1, k1, g1⟩ := h1 _ _ _ e1
  rw [o0, c0] at k0; rw [o1, c1] at k1
  exact ⟨(a0, a1), ⟨_, _, cutTwo cs (by omega), k0, k1⟩, g0, g1⟩
/-- An array of numbers. -/
def RIArr (k : IntKind) (n : Nat) : Rel (List Int) := fun _ xs cs => xs.length = n ∧ cs = xs.map (Value.int k)
theorem opn_iarr {t e : TypeId} {k : IntKind} {n : Nat} (ht : P.underlying t = some (.array n e)) (he : P.underlying e = some (.int k)) (c1 : P.cellsOf e = 1) (ct : P.cellsOf t = n) :
    Opn enc P W base sp held t (RIArr k n) (fun xs => ∀ x ∈ xs, (Lit.int k x).wf = true) := by
  intro fuel cs x h
  obtain ⟨xs, m, _, _, hl, hxl, hf⟩ := DataW.trod_array ht h
  have each : ∀ i, i < n → ∃ a : Int, cs[i]? = some (.int k a) ∧ (Lit.int k a).wf = true := by
    intro i hi
    have h1 := hf i hi
    rw [List.getElem?_eq_getElem (by omega)] at h1
    obtain ⟨a, ha, hw⟩ := opn_int he _ _ _ h1
    refine ⟨a, ?_, hw⟩
    unfold RInt at ha
    rw [c1, Nat.mul_one] at ha
    have h2 : ((cs.drop i).take 1)[0]? = some (.int k a) := by rw [ha]; rfl
    rw [List.getElem?_take, List.getElem?_drop] at h2
    simpa using h2
  obtain ⟨ys, hyl, hy⟩ := chooseLen (R := fun i a => cs[i]? = some (Value.int k a) ∧ (Lit.int k a).wf = true) n each
  refine ⟨ys, ⟨hyl, ?_⟩, fun y hm => ?_⟩
  · apply List.ext_getElem?
    intro i
    rw [List.getElem?_map]
    rcases Nat.lt_or_ge i n with hi | hi
    · rw [List.getElem?_eq_getElem (show i < ys.length by omega)]
      exact (hy i _ (List.getElem?_eq_getElem (by omega))).1
    · rw [List.getElem?_eq_none (by omega), List.getElem?_eq_none (by omega)]; rfl
  · obtain ⟨i, hi⟩ := List.getElem?_of_mem hm
    exact (hy i y hi).2
/-- A parameter. -/
theorem opn_arg {t : TypeId} {R : Rel α} {G : α → Prop} {v : Value} {y : DataW H} {p : List MemPlace} (h : Opn enc P W base sp held t R G) (hd : DataW.Trod enc P W base sp held t v y p) : ∃ a, R W a v.cells.toList ∧ G a := by
  obtain ⟨fuel, hf⟩ := hd
  exact h _ _ _ hf
/-! ### What holds, holds later -/
theorem keep_cell {w w' : World} (k : Keep (fun _ => False) w w') {a : Addr} {v : Value} (h : w.cell? a = some v) : w'.cell? a = some v := by
  unfold World.cell? at h ⊢
  cases e : w.heap[a.block]? with
  | none => rw [e] at h; cases h
  | some o => rw [k.block a.block (Array.getElem?_eq_some_iff.1 e).1 id, e]; rw [e] at h; exact h
def Pers (R : Rel α) : Prop := ∀ w w' x cs, Keep (fun _ => False) w w' → R w x cs → R w' x cs
theorem pers_int (k : IntKind) : Pers (RInt k) := fun w w' x cs _ h => h
theorem rows_later {R : Rel α} (hR : Pers R) {sz : Nat} {l : List α} {A : Option Addr} {c : Nat} {w w' : World} (k : Keep (fun _ => False) w w') (h : Rows R sz l A c w) : Rows R sz l A c w' := by
  obtain ⟨h1, h2, h3⟩ := h
  refine ⟨h1, h2, fun j x hx => ?_⟩
  obtain ⟨ad, cs, e1, e2, e3, e4⟩ := h3 j x hx
  exact ⟨ad, cs, e1, e2, hR _ _ _ _ k e3, fun i u hu => keep_cell k (e4 i u hu)⟩
/-- A contract, where the row's walk ends. -/
theorem Ct.row {f : FuncId} {args : Array Value} {pre : World → Prop} {r : α → Value} {p : α → Prop} {Ψ : α → World → Prop} (h : Ct P f args pre r p Ψ) (hp : ∀ w', Keep (fun _ => False) W w' → pre w') : Calls P f args W (fun e w' => (∃ x, e = .returned (r x) ∧ p x) ∧ Below W.heap.size W w') :=
  (h (fun _ => False) W (fun _ e => e.elim) hp).mono fun e w' ⟨x, e1, e2, k, _⟩ => ⟨⟨x, e1, e2⟩, ⟨k.os, k.tape, k.output, k.size, fun i hi => k.block i hi id⟩⟩
end
end Go.Proofs.Wk
/- Rows of arguments, their parts' places chosen. -/
namespace Go.Proofs.Wk
open Go.RowKit
set_option linter.unusedVariables false
set_option linter.unusedSimpArgs false
section
variable {α β : Type} {W : World}
theorem rows_map {R : Rel α} {enc : β → List Value} {held : β → World → Prop} {sz : Nat} {l : List α} {A : Option Addr} {c : Nat} (f : β → α) (h : Rows R sz l A c W) (hR : ∀ x cs, x ∈ l → R W x cs → ∃ y : β, f y = x ∧ cs = enc y ∧ held y W) :
    ∃ l' : List β, l'.map f = l ∧ Rows (RR enc held) sz l' A c W := by
  obtain ⟨h1, h2, h3⟩ := h
  have each : ∀ i, i < l.length → ∃ y : β, l[i]? = some (f y) ∧ ∃ ad, A = some ad ∧ (enc y).length = sz ∧ held y W ∧ ∀ j u, (enc y)[j]? = some u → W.cell? (ad.add (i * sz + j)) = some u := by
    intro i hi
    have hx := List.getElem?_eq_getElem hi
    obtain ⟨ad, cs, e1, e2, e3, e4⟩ := h3 i _ hx
    obtain ⟨y, rfl', rfl, hh⟩ := hR _ _ (List.getElem_mem hi) e3
    exact ⟨y, by rw [hx, rfl'], ad, e1, e2, hh, e4⟩
  obtain ⟨ys, hl, hy⟩ := chooseLen (R := fun i y => l[i]? = some (f y) ∧ ∃ ad, A = some ad ∧ (enc y).length = sz ∧ held y W ∧ ∀ j u, (enc y)[j]? = some u → W.cell? (ad.add (i * sz + j)) = some u) l.length each
  refine ⟨ys, ?_, by omega, by omega, fun j y hj => ?_⟩
  · apply List.ext_getElem?
    intro i
    rw [List.getElem?_map]
    rcases Nat.lt_or_ge i ys.length with hi | hi
    · rw [List.getElem?_eq_getElem hi]
      exact ((hy i _ (List.getElem?_eq_getElem hi)).1).symm
    · rw [List.getElem?_eq_none hi, List.getElem?_eq_none (by omega)]; rfl
  · obtain ⟨_, ad, e1, e2, e3, e4⟩ := hy j y hj
    exact ⟨ad, enc y, e1, e2, ⟨rfl, e3⟩, e4⟩
theorem pers_RR {enc : β → List Value} {held : β → World → Prop} (h : ∀ x w w', Keep (fun _ => False) w w' → held x w → held x w') : Pers (RR enc held) := fun w w' x cs k ⟨h1, h2⟩ => ⟨h1, h x w w' k h2⟩
end
end Go.Proofs.Wk
/- Rows of arguments: structs of four fields, parts. -/
namespace Go.Proofs.Wk
open Go.RowKit
set_option linter.unusedVariables false
set_option linter.unusedSimpArgs false
section
variable {H : Type} {enc : TypeId × Value → H} {P : Program} {W : World} {base : Nat} {sp : Nat → Bool} {held : Bool} {α β γ δ : Type}
theorem opn_struct4 {t : TypeId} {f0 f1 f2 f3 : Field} {d0 : Rel α} {d1 : Rel β} {d2 : Rel γ} {d3 : Rel δ} {z0 z1 z2 z3 : Nat} {G0 : α → Prop} {G1 : β → Prop} {G2 : γ → Prop} {G3 : δ → Prop} (ht : P.underlying t = some (.struct #[f0, f1, f2, f3]))
    (h0 : Opn enc P W base sp held f0.type d0 G0) (h1 : Opn enc P W base sp held f1.type d1 G1) (h2 : Opn enc P W base sp held f2.type d2 G2) (h3 : Opn enc P W base sp held f3.type d3 G3) (o0 : f0.offset = 0) (o1 : f1.offset = z0) (o2 : f2.offset = z0 + z1) (o3 : f3.offset = z0 + z1 + z2)
    (c0 : P.cellsOf f0.type = z0) (c1 : P.cellsOf f1.type = z1) (c2 : P.cellsOf f2.type = z2) (c3 : P.cellsOf f3.type = z3) (ct : P.cellsOf t = z0 + (z1 + (z2 + z3))) :
    Opn enc P W base sp held t (RPair d0 (RPair d1 (RPair d2 d3))) (fun x => G0 x.1 ∧ G1 x.2.1 ∧ G2 x.2.2.1 ∧ G3 x.2.2.2) := by
  intro fuel cs x h
  obtain ⟨xs, n, _, _, hl, hxl, hf⟩ := DataW.trod_struct ht h
  have e0 := hf 0 f0 rfl; have e1 := hf 1 f1 rfl; have e2 := hf 2 f2 rfl; have e3 := hf 3 f3 rfl
  have hl2 : xs.length = 4 := hxl
  rw [List.getElem?_eq_getElem (by omega)] at e0 e1 e2 e3
  obtain ⟨a0, k0, g0⟩ := h0 _ _ _ e0
  obtain ⟨a1, k1, g1⟩ := h1 _ _ _ e1
  obtain ⟨a2, k2, g2⟩ := h2 _ _ _ e2
  obtain ⟨a3, k3, g3⟩ := h3 _ _ _ e3
  rw [o0, c0] at k0; rw [o1, c1] at k1; rw [o2, c2] at k2; rw [o3, c3] at k3
  have hd : cs.drop (z0 + z1) = (cs.drop z0).drop z1 := by rw [List.drop_drop]
  have hd3 : cs.drop (z0 + z1 + z2) = ((cs.drop z0).drop z1).drop z2 := by rw [List.drop_drop, List.drop_drop, Nat.add_assoc]
  rw [hd] at k2
  rw [hd3] at k3
  have s2 := cutTwo ((cs.drop z0).drop z1) (m := z2) (n := z3) (by rw [List.length_drop, List.length_drop]; omega)
  rw [List.drop_zero] at s2
  have s1 := cutTwo (cs.drop z0) (m := z1) (n := z2 + z3) (by rw [List.length_drop]; omega)
  rw [List.drop_zero, List.take_of_length_le (l := (cs.drop z0).drop z1) (by rw [List.length_drop, List.length_drop]; omega)] at s1
  have s0 := cutTwo cs (m := z0) (n := z1 + (z2 + z3)) (by omega)
  rw [List.take_of_length_le (l := cs.drop z0) (by rw [List.length_drop]; omega)] at s0
  exact ⟨(a0, a1, a2, a3), ⟨_, _, s0, k0, ⟨_, _, s1, k1, ⟨_, _, s2, k2, k3⟩⟩⟩, g0, g1, g2, g3⟩
theorem pers_PS : Pers (RR encP heldP) := pers_RR fun _ _ _ _ _ => trivial
theorem parts {l : List Pt} {A : Option Addr} {c : Nat} (h : Rows (RPair (RInt .i64) (RInt .u64)) 2 l A c W) : PS l (A, c) W := by
  obtain ⟨l', e, h'⟩ := rows_map (enc := encP) (held := heldP) (fun p : Pt => p) h fun p cs _ ⟨c1, c2, e, h1, h2⟩ => ⟨p, rfl, (by rw [e, h1, h2]; rfl : cs = encP p), (trivial : heldP p W)⟩
  rw [List.map_id''] at e
  · subst e; exact h'
  · exact fun _ => rfl
end
end Go.Proofs.Wk
/- Rows of arguments: exposures. -/
namespace Go.Proofs.Wk
open Go.RowKit
set_option linter.unusedVariables false
set_option linter.unusedSimpArgs false
section
variable {W : World}
theorem pers_X : Pers (RR encX heldX) := pers_RR fun x w w' k h => rows_later pers_PS k h
theorem exposures {l : List (Int × Int × Int × List Pt)} {A : Option Addr} {c : Nat} (h : Rows (RPair (RInt .i64) (RPair (RInt .u64) (RPair (RInt .u64) (RSl (RPair (RInt .i64) (RInt .u64)) 2)))) 4 l A c W) : ∃ xs : List Ex, xs.map (fun x => (x.id, x.com, x.own, x.oth)) = l ∧ XS xs (A, c) W :=
  rows_map (fun x : Ex => (x.id, x.com, x.own, x.oth)) h fun ⟨a, b, d, p⟩ cs _ ⟨c1, c2, e, h1, c3, c4, e2, h2, c5, c6, e3, h3, A', cap, e4, h4⟩ => ⟨⟨a, b, d, p, (A', cap)⟩, rfl, by rw [e, h1, e2, h2, e3, h3, e4]; rfl, parts h4⟩
theorem exposures_wf {l : List (Int × Int × Int × List Pt)} {xs : List Ex} (h : xs.map (fun x => (x.id, x.com, x.own, x.oth)) = l) (hw : ∀ a ∈ l, (Lit.int .i64 a.1).wf = true ∧ (Lit.int .u64 a.2.1).wf = true ∧ (Lit.int .u64 a.2.2.1).wf = true ∧ ∀ y ∈ a.2.2.2, (Lit.int .i64 y.1).wf = true ∧ (Lit.int .u64 y.2).wf = true) : ∀ x ∈ xs, ExW x := fun x hx => by
  subst h
  have := hw _ (List.mem_map_of_mem hx)
  exact ⟨bu64 this.2.1, bu64 this.2.2.1, fun p hp => bu64 (this.2.2.2 p hp).2⟩
end
end Go.Proofs.Wk
