/- Any two naturals are divided as the reference says. No conditions. -/
import Derived.Test.YtapmhmkekkhhpaaLLimbDivides
namespace Go.Proofs.Ytapmhmkekkhhpaa.Pure
open Go.RowKit Go.Proofs.Ytapmhmkekkhhpaa.PLimbDivides Go.Proofs.YtapmhmkekkhhpaaW.PrintWords Go.Proofs.YtapmhmkekkhhpaaW.PrintLast Go.Proofs.YtapmhmkekkhhpaaW.PrintMore Go.Proofs.Ytapmhmkekkhhpaa.LLimbDivides
set_option linter.unusedSimpArgs false
set_option linter.unusedVariables false

theorem rDivMod_ev {a b : List Int} (ha : Lm a) (hb : Lm b) (hla : a.length ≤ 410) (hlb : b.length ≤ 410) {k : Nat} (hk : 50000 < k) : psephosref01_DivMod.f (k + 1) a b = some (divS a b) := by
  unfold psephosref01_DivMod.f divS
  rw [rFormed_ev (by omega), rFormed_ev (by omega), Option.bind_some, Option.bind_some]
  cases hfa : fmB a with
  | false => rw [if_neg (by simp), if_neg (by simp)]; simp only [psephosref01_DivMod.j0, if_true]
  | true =>
    rw [if_pos rfl]
    cases hfb : fmB b with
    | false => rw [if_neg (by simp)]; simp only [psephosref01_DivMod.j0, Bool.not_false, if_true]
    | true =>
      rw [if_pos ⟨rfl, rfl⟩]
      simp only [psephosref01_DivMod.j0, Bool.not_true]
      rw [if_neg (by simp)]
      by_cases h0 : b.length = 0
      · rw [if_pos (by omega), if_pos h0]
      · rw [if_neg (by omega), if_neg h0, rdivMod_ev ((fmB_iff ha).1 hfa).2 ((fmB_iff hb).1 hfb).2 h0 (by omega) (by omega) (by omega)]; rfl
theorem div_le {x y : Int} (hx : 0 ≤ x) (hy : 0 ≤ y) : 0 ≤ x / y ∧ x / y ≤ x ∧ 0 ≤ x % y ∧ x % y ≤ x := by
  rcases Int.lt_or_eq_of_le hy with h | h
  · have h1 := Int.ediv_nonneg hx hy
    have h2 := Int.mul_ediv_add_emod x y
    have h3 := Int.emod_nonneg x (show y ≠ 0 by omega)
    have h4 := Int.mul_le_mul_of_nonneg_right (show 1 ≤ y by omega) h1
    omega
  · subst h; simp; omega
theorem divS_len {a b : List Int} (ha : Lm a) (hb : Lm b) : (divS a b).1.length ≤ 400 ∧ (divS a b).2.1.length ≤ 400 := by
  unfold divS
  split
  · rename_i h
    split
    · simp
    · obtain ⟨e, l, f⟩ := fmB_nat ha h.1
      obtain ⟨d1, d2, d3, d4⟩ := div_le (val_nonneg ha) (val_nonneg hb)
      have hv := val_lt_pw ha; have := pw_le l
      exact ⟨natL_len_le d1 (by omega), natL_len_le d3 (by omega)⟩
  · simp
theorem div_j {a b : List Int} (ha : Lm a) (hb : Lm b) (hla : a.length ≤ 410) (hlb : b.length ≤ 410) {k : Nat} (hk : 60000 < k) : psephoslaw01_LimbDivides.j0 (k + 1) a b false = some true := by
  obtain ⟨k, rfl⟩ : ∃ m, k = m + 1 := ⟨k - 1, by omega⟩
  obtain ⟨l1, l2⟩ := divS_len ha hb
  have hs : ∀ l : List Int, l.length ≤ 400 → psephoslaw01_same.f (k + 1) l l = some true := by
    intro l hl
    unfold psephoslaw01_same.f; rw [same_self (by omega) (by omega)]; rfl
  simp only [psephoslaw01_LimbDivides.j0]
  rw [if_neg (by simp), divMod_ev ha hb (by omega) (by omega) (by omega), Option.bind_some, rDivMod_ev ha hb hla hlb (by omega), Option.bind_some, hs _ l1, Option.bind_some, if_pos rfl, hs _ l2, Option.bind_some, if_pos rfl]
  simp
theorem LimbDivides : psephoslaw01_LimbDivides.Pure := by
  intro a b _ hal hwa _ hbl hwb
  have ha : Lm a := fun x hx => bu32 (hwa x hx)
  have hb : Lm b := fun x hx => bu32 (hwb x hx)
  obtain ⟨K, hK⟩ := awake_ev
  obtain ⟨k, hk1, hk2⟩ : ∃ k, K ≤ k ∧ 60000 < k := ⟨K + 60001, by omega, by omega⟩
  refine ⟨k + 1, ?_⟩
  have hA := hK (k + 1) (by omega)
  have hj : psephoslaw01_LimbDivides.j0 (k + 1) a b true = some true := by
    simp only [psephoslaw01_LimbDivides.j0, if_true]; rw [hK _ (by omega)]; rfl
  have hfew := few_all (ls := [a, b]) (k := k + 1) (by simp) (by simp; omega)
  unfold psephoslaw01_LimbDivides.f
  rw [hA, Option.bind_some, if_pos rfl, hfew, Option.bind_some]
  by_cases hf : (([a, b] : List (List Int)).all (fun l => decide (l.length ≤ 410))) = true
  · have hf' : a.length ≤ 410 ∧ b.length ≤ 410 := by simpa using hf
    rw [hf, if_pos rfl]
    cases hd : decide ((a.length : Int) > 80) with
    | true => exact hj
    | false => exact div_j ha hb hf'.1 hf'.2 hk2
  · rw [if_neg hf]; exact hj

end Go.Proofs.Ytapmhmkekkhhpaa.Pure
