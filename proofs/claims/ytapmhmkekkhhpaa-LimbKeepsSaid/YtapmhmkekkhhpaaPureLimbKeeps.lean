/- Whatever two naturals are handed in: each of the calls of the law LimbKeeps comes to its end. No conditions. -/
import Derived.Test.YtapmhmkekkhhpaaPLimbKeepsxw
import Derived.Test.YtapmhmkekkhhpaaLLimbKeeps
namespace Go.Proofs.Ytapmhmkekkhhpaa.Pure
open Go.RowKit Go.Proofs.Ytapmhmkekkhhpaa.PLimbKeeps Go.Proofs.YtapmhmkekkhhpaaW.PrintWords Go.Proofs.YtapmhmkekkhhpaaW.PrintLast Go.Proofs.YtapmhmkekkhhpaaW.PrintMore Go.Proofs.Ytapmhmkekkhhpaa.LLimbKeeps
set_option linter.unusedSimpArgs false
set_option linter.unusedVariables false

theorem LimbKeeps : psephoslaw01_LimbKeeps.Pure := by
  intro a b _ hal hwa _ hbl hwb
  have ha : Lm a := fun x hx => bu32 (hwa x hx)
  have hb : Lm b := fun x hx => bu32 (hwb x hx)
  obtain ⟨K, hK⟩ := awake_ev
  by_cases hl : a.length ≤ 30 ∧ b.length ≤ 30
  · obtain ⟨G, hG⟩ := Gcd_ev ha hb (by omega) (by omega)
    obtain ⟨k, hk1, hk2, hk3⟩ : ∃ k, K ≤ k ∧ G ≤ k ∧ 100000 < k := ⟨K + G + 100001, by omega, by omega, by omega⟩
    have hG := hG k hk2
    dsimp only at hG
    have hkm : (a.length + 1) * (b.length + 2) ≤ 31 * 32 := Nat.mul_le_mul (by omega) (by omega)
    refine ⟨k, ?_⟩
    unfold psephoslaw01_LimbKeeps.f
    rw [hK k hk1, Option.bind_some, if_pos rfl, few_all (by simp) (by simp; omega), Option.bind_some]
    split
    · rw [if_neg (by omega), if_neg (by omega), add_ev ha hb (by omega) (by omega) (by omega), Option.bind_some, sub_ev ha hb (by omega) (by omega) (by omega), Option.bind_some,
        mul_ev ha hb (by omega) (by omega) (by omega), Option.bind_some, hG, Option.bind_some, divMod_ev ha hb (by omega) (by omega) (by omega), Option.bind_some]
    · rfl
  · obtain ⟨k, hk1, hk3⟩ : ∃ k, K ≤ k ∧ 100000 < k := ⟨K + 100001, by omega, by omega⟩
    refine ⟨k, ?_⟩
    unfold psephoslaw01_LimbKeeps.f
    rw [hK k hk1, Option.bind_some, if_pos rfl, few_all (by simp) (by simp; omega), Option.bind_some]
    split
    · by_cases h1 : a.length ≤ 30
      · rw [if_neg (by omega), if_pos (by omega)]; rfl
      · rw [if_pos (by omega)]; rfl
    · rfl

end Go.Proofs.Ytapmhmkekkhhpaa.Pure
