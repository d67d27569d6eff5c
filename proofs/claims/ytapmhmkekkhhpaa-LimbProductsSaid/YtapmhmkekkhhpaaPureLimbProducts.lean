/- Any two naturals are multiplied as the reference says. No conditions. -/
import Derived.Test.YtapmhmkekkhhpaaLLimbProducts
namespace Go.Proofs.Ytapmhmkekkhhpaa.Pure
open Go.RowKit Go.Proofs.Ytapmhmkekkhhpaa.PLimbProducts Go.Proofs.YtapmhmkekkhhpaaW.PrintWords Go.Proofs.YtapmhmkekkhhpaaW.PrintLast Go.Proofs.YtapmhmkekkhhpaaW.PrintMore Go.Proofs.Ytapmhmkekkhhpaa.LLimbProducts
set_option linter.unusedSimpArgs false
set_option linter.unusedVariables false

theorem fitN_len (n : Int) : (fitN n).1.length ≤ 400 := by
  unfold fitN; split
  · assumption
  · simp
theorem LimbProducts : psephoslaw01_LimbProducts.Pure := by
  intro a b _ hal hwa _ hbl hwb
  have ha : Lm a := fun x hx => bu32 (hwa x hx)
  have hb : Lm b := fun x hx => bu32 (hwb x hx)
  obtain ⟨K, hK⟩ := awake_ev
  refine ⟨K + 1000000, ?_⟩
  unfold psephoslaw01_LimbProducts.f
  rw [hK _ (by omega)]; simp only [Option.bind_some, if_true]
  rw [few_all (by simp) (by simp)]; simp only [Option.bind_some]
  simp only [psephoslaw01_LimbProducts.j0, show K + 1000000 = (K + 999999) + 1 from rfl]
  by_cases hf : a.length ≤ 410 ∧ b.length ≤ 410
  · have hla : (mulS a b).1.length ≤ 400 := by
      unfold mulS; split
      · exact fitN_len _
      · simp
    have hkm : (a.length + 1) * (b.length + 2) ≤ 411 * 412 := Nat.mul_le_mul (by omega) (by omega)
    rw [if_neg (by simp; omega), mul_ev ha hb (by omega) (by omega) (by omega), rMul_ev ha hb (by omega) (by omega) (by omega)]
    simp only [Option.bind_some]
    have hs : ∀ l : List Int, l.length ≤ 400 → psephoslaw01_same.f (K + 999999) l l = some true := by
      intro l hl
      unfold psephoslaw01_same.f; rw [same_self (by omega) (by omega)]; rfl
    rw [hs _ hla]; simp
  · rw [if_pos (by simp; omega), hK _ (by omega)]; rfl

end Go.Proofs.Ytapmhmkekkhhpaa.Pure
