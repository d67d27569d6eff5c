/- Arguments opened, kind by kind: what a value that reads as data says of the memory. Conditions: the types' descriptions, written with each theorem. -/
import Derived.Test.YtngmfmmmkmmhbaaGreatVElectionNil
import Derived.Test.YtngmfmmmkmmhbaaGreatMyWordsElectionNil
import Derived.ChangeArms
import Derived.DataReads
import Derived.OpenShut
import Derived.ChangeSlices
namespace Go.Proofs.YtngmfmmmkmmhbaaGreatW.PrintMore
open Go.RowKit Go.Proofs.YtngmfmmmkmmhbaaGreatW.PrintWords Go.Proofs.YtngmfmmmkmmhbaaGreatW.PrintLast
set_option linter.unusedVariables false
set_option linter.unusedSimpArgs false
section
variable {H : Type} {enc : TypeId × Value → H} {P : Program} {W : World} {base : Nat} {sp : Nat → Bool} {held : Bool} {α β γ δ : Type}
/-- Whatever reads as data of the type t is of the kind d, and G holds of it. -/
def Opens (enc : TypeId × Value → H) (P : Program) (W : World) (base : Nat) (sp : Nat → Bool) (held : Bool) (t : TypeId) (d : Kd α) (G : α → Prop) : Prop :=
  ∀ fuel cs x, DataW.trod enc P W base sp held fuel t cs = some x → ∃ a, d.K W a cs ∧ G a
theorem opens_int {t : TypeId} {k : IntKind} (ht : P.underlying t = some (.int k)) : Opens enc P W base sp held t (Kd.int k) (fun n => (Lit.int k n).wf = true) := by
  intro fuel cs x h
  obtain ⟨n, rfl, _, hw⟩ := DataW.trod_int ht h
  exact ⟨n, rfl, hw⟩
theorem opens_bool {t : TypeId} (ht : P.underlying t = some .bool) : Opens enc P W base sp held t Kd.bool (fun _ => True) := by
  intro fuel cs x h
  obtain ⟨n, rfl, _⟩ := DataW.trod_bool ht h
  exact ⟨n, rfl, trivial⟩
theorem choose_len {R : Nat → α → Prop} : ∀ (n : Nat), (∀ i, i < n → ∃ a, R i a) → ∃ xs : List α, xs.length = n ∧ ∀ i a, xs[i]? = some a → R i a
  | 0, _ => ⟨[], rfl, fun i a h => by simp at h⟩
  | n + 1, h => by
    obtain ⟨xs, hl, hx⟩ := choose_len n (fun i hi => h i (by omega))
    obtain ⟨a, ha⟩ := h n (by omega)
    refine ⟨xs ++ [a], by simp [hl], fun i b hb => ?_⟩
    rcases Nat.lt_or_ge i xs.length with hi | hi
    · rw [List.getElem?_append_left hi] at hb; exact hx i b hb
    · have : i = n := by
        have := (List.getElem?_eq_some_iff.1 hb).1
        simp [hl] at this; omega
      subst this
      rw [List.getElem?_append_right (by omega), hl] at hb
      simp at hb; subst hb; exact ha
theorem opens_slice {t e : TypeId} {d : Kd α} {G : α → Prop} (ht : P.underlying t = some (.slice e)) (hs : P.cellsOf e = d.sz) (he : Opens enc P W base sp held e d G) :
    Opens enc P W base sp held t (Kd.slice e d) (fun xs => ∀ a ∈ xs, G a) := by
  intro fuel cs x h
  rcases DataW.trod_slice ht h with ⟨rfl, _⟩ | ⟨a, len, cap, elems, rest, n, _, rfl, _, hb, hl, hm, hlen, hel, _, _⟩
  · exact ⟨[], ⟨none, 0, rfl, Nat.le_refl _, rfl, by simp, fun h => absurd h (by simp)⟩, by simp⟩
  · have each : ∀ i, i < len → ∃ y : α, (∃ c, c.length = d.sz ∧ d.K W y c ∧ ∀ j u, c[j]? = some u → W.cell? (a.add (i * d.sz + j)) = some u) ∧ G y := by
      intro i hi
      have h1 := hel i hi
      rw [List.getElem?_eq_getElem (by omega), hs] at h1
      obtain ⟨c, hc, hy⟩ := Option.bind_eq_some_iff.1 h1
      obtain ⟨y, hK, hG⟩ := he _ _ _ hy
      obtain ⟨_, hcl, hcc⟩ := World.cells?_some hc
      refine ⟨y, ⟨c, hcl, hK, fun j u hu => ?_⟩, hG⟩
      have hj : j < d.sz := by rw [← hcl]; exact (List.getElem?_eq_some_iff.1 hu).1
      rw [← hu, ← hcc j hj, Go.Proofs.YtngmfmmmkmmhbaaGreatW.PrintMore.add_add_']
    obtain ⟨xs, hxl, hx⟩ := choose_len len each
    refine ⟨xs, ⟨some a, cap, by rw [hxl], by omega, ?_⟩, fun y hy => ?_⟩
    · have hm2 : cap ≤ 9223372036854775807 := hm
      refine ⟨rfl, by omega, fun _ => ⟨a, rfl, fun j p hp => (hx j p hp).1⟩⟩
    · obtain ⟨i, hi⟩ := List.getElem?_of_mem hy
      exact (hx i y hi).2
theorem cut_two (cs : List Value) {m n : Nat} (h : cs.length = m + n) : cs = (cs.drop 0).take m ++ (cs.drop m).take n := by
  rw [List.drop_zero, List.take_of_length_le (l := cs.drop m) (by rw [List.length_drop]; omega), List.take_append_drop]
theorem opens_struct2 {t : TypeId} {f0 f1 : Field} {d0 : Kd α} {d1 : Kd β} {G0 : α → Prop} {G1 : β → Prop} (ht : P.underlying t = some (.struct #[f0, f1]))
    (h0 : Opens enc P W base sp held f0.type d0 G0) (h1 : Opens enc P W base sp held f1.type d1 G1) (o0 : f0.offset = 0) (o1 : f1.offset = d0.sz)
    (c0 : P.cellsOf f0.type = d0.sz) (c1 : P.cellsOf f1.type = d1.sz) (ct : P.cellsOf t = d0.sz + d1.sz) :
    Opens enc P W base sp held t (Kd.pair d0 d1) (fun x => G0 x.1 ∧ G1 x.2) := by
  intro fuel cs x h
  obtain ⟨xs, n, _, _, hl, hxl, hf⟩ := DataW.trod_struct ht h
  have e0 := hf 0 f0 rfl; have e1 := hf 1 f1 rfl
  have hl2 : xs.length = 2 := hxl
  rw [List.getElem?_eq_getElem (by omega)] at e0 e1
  obtain ⟨a0, k0, g0⟩ := h0 _ _ _ e0
  obtain ⟨a1, k1, g1⟩ := h1 _ _ _ e1
  rw [o0, c0] at k0; rw [o1, c1] at k1
  exact ⟨(a0, a1), ⟨_, _, cut_two cs (by omega), k0, k1⟩, g0, g1⟩
theorem opens_struct3 {t : TypeId} {f0 f1 f2 : Field} {d0 : Kd α} {d1 : Kd β} {d2 : Kd γ} {G0 : α → Prop} {G1 : β → Prop} {G2 : γ → Prop} (ht : P.underlying t = some (.struct #[f0, f1, f2]))
    (h0 : Opens enc P W base sp held f0.type d0 G0) (h1 : Opens enc P W base sp held f1.type d1 G1) (h2 : Opens enc P W base sp held f2.type d2 G2) (o0 : f0.offset = 0) (o1 : f1.offset = d0.sz) (o2 : f2.offset = d0.sz + d1.sz)
    (c0 : P.cellsOf f0.type = d0.sz) (c1 : P.cellsOf f1.type = d1.sz) (c2 : P.cellsOf f2.type = d2.sz) (ct : P.cellsOf t = d0.sz + (d1.sz + d2.sz)) :
    Opens enc P W base sp held t (Kd.pair d0 (Kd.pair d1 d2)) (fun x => G0 x.1 ∧ G1 x.2.1 ∧ G2 x.2.2) := by
  intro fuel cs x h
  obtain ⟨xs, n, _, _, hl, hxl, hf⟩ := DataW.trod_struct ht h
  have e0 := hf 0 f0 rfl; have e1 := hf 1 f1 rfl; have e2 := hf 2 f2 rfl
  have hl2 : xs.length = 3 := hxl
  rw [List.getElem?_eq_getElem (by omega)] at e0 e1 e2
  obtain ⟨a0, k0, g0⟩ := h0 _ _ _ e0
  obtain ⟨a1, k1, g1⟩ := h1 _ _ _ e1
  obtain ⟨a2, k2, g2⟩ := h2 _ _ _ e2
  rw [o0, c0] at k0; rw [o1, c1] at k1; rw [o2, c2] at k2
  have hd : cs.drop (d0.sz + d1.sz) = (cs.drop d0.sz).drop d1.sz := by rw [List.drop_drop]
  rw [hd] at k2
  have s1 := cut_two (cs.drop d0.sz) (m := d1.sz) (n := d2.sz) (by rw [List.length_drop]; omega)
  rw [List.drop_zero] at s1
  have s0 := cut_two cs (m := d0.sz) (n := d1.sz + d2.sz) (by omega)
  rw [List.take_of_length_le (l := cs.drop d0.sz) (by rw [List.length_drop]; omega)] at s0
  exact ⟨(a0, a1, a2), ⟨_, _, s0, k0, ⟨_, _, s1, k1, k2⟩⟩, g0, g1, g2⟩
theorem opens_iso {t : TypeId} {d : Kd α} {G : α → Prop} (f : β → α) (g : α → β) (hfg : ∀ a, f (g a) = a) (h : Opens enc P W base sp held t d G) : Opens enc P W base sp held t (Kd.iso d f) (fun x => G (f x)) := by
  intro fuel cs x hx
  obtain ⟨a, k, ga⟩ := h _ _ _ hx
  exact ⟨g a, by show d.K W (f (g a)) cs; rw [hfg]; exact k, by show G (f (g a)); rw [hfg]; exact ga⟩
theorem opens_imp {t : TypeId} {d : Kd α} {G G' : α → Prop} (h : Opens enc P W base sp held t d G) (hi : ∀ a, G a → G' a) : Opens enc P W base sp held t d G' := by
  intro fuel cs x hx
  obtain ⟨a, k, ga⟩ := h _ _ _ hx
  exact ⟨a, k, hi a ga⟩
theorem okWide_agg {r : Reach} {b0 : Nat} {t : TypeId} {fs : Array Field} {v : Value} (ht : P.underlying t = some (.struct fs)) (h : Value.okWide P W r b0 t v) : ∃ cs, v = .agg cs := by
  unfold Value.okWide at h
  rw [ht] at h
  obtain ⟨cs, rfl, _⟩ := h
  exact ⟨cs, rfl⟩
/-- A parameter of one cell. -/
theorem opens_arg {t : TypeId} {d : Kd α} {G : α → Prop} {v : Value} {y : DataW H} {p : List MemPlace} (h : Opens enc P W base sp held t d G) (hd : DataW.Trod enc P W base sp held t v y p) : ∃ a, d.K W a v.cells.toList ∧ G a := by
  obtain ⟨fuel, hf⟩ := hd
  exact h _ _ _ hf
end
end Go.Proofs.YtngmfmmmkmmhbaaGreatW.PrintMore
