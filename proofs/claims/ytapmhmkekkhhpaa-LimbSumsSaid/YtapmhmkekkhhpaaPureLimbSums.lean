/- Any two naturals are compared, added and subtracted as the reference says. No conditions. -/
import Derived.Test.YtapmhmkekkhhpaaLLimbSums
namespace Go.Proofs.Ytapmhmkekkhhpaa.Pure
open Go.RowKit Go.Proofs.Ytapmhmkekkhhpaa.PLimbSums Go.Proofs.YtapmhmkekkhhpaaW.PrintWords Go.Proofs.YtapmhmkekkhhpaaW.PrintLast Go.Proofs.YtapmhmkekkhhpaaW.PrintMore Go.Proofs.Ytapmhmkekkhhpaa.LLimbSums
set_option linter.unusedSimpArgs false
set_option linter.unusedVariables false

theorem fitN_len (n : Int) : (fitN n).1.length ≤ 400 := by
  unfold fitN; split
  · assumption
  · simp
theorem LimbSums : psephoslaw01_LimbSums.Pure := by
  intro a b _ hal hwa _ hbl hwb
  have ha : Lm a := fun x hx => bu32 (hwa x hx)
  have hb : Lm b := fun x hx => bu32 (hwb x hx)
  obtain ⟨K, hK⟩ := awake_ev
  refine ⟨K + 10000, ?_⟩
  unfold psephoslaw01_LimbSums.f
  rw [hK _ (by omega)]; simp only [Option.bind_some, if_true]
  rw [few_all (by simp) (by simp)]; simp only [Option.bind_some]
  simp only [psephoslaw01_LimbSums.j0, show K + 10000 = (K + 9999) + 1 from rfl]
  by_cases hf : a.length ≤ 410 ∧ b.length ≤ 410
  · have hla : (addS a b).1.length ≤ 400 := by
      unfold addS; split
      · exact fitN_len _
      · simp
    have hls : (subS a b).1.length ≤ 400 := by
      unfold subS; split
      · rename_i h
        have fa := (fmB_iff ha).1 h.1
        have fb := val_nonneg hb
        split
        · simp
        · rename_i h2
          show (natL (val a - val b)).length ≤ 400
          rw [natL_len (by omega)]
          have := (fa.2.len_le 400).1 fa.1
          omega
      · simp
    rw [if_neg (by simp; omega), add_ev ha hb (by omega) (by omega) (by omega), rAdd_ev ha hb (by omega) (by omega) (by omega), sub_ev ha hb (by omega) (by omega) (by omega), rSub_ev ha hb (by omega) (by omega) (by omega), Cmp_ev ha hb (by omega) (by omega) (by omega), rCmp_ev ha hb (by omega) (by omega) (by omega)]
    simp only [Option.bind_some]
    have hs : ∀ l : List Int, l.length ≤ 400 → psephoslaw01_same.f (K + 9999) l l = some true := by
      intro l hl
      unfold psephoslaw01_same.f; rw [same_self (by omega) (by omega)]; rfl
    rw [hs _ hla, hs _ hls]; simp
  · rw [if_pos (by simp; omega), hK _ (by omega)]; rfl

end Go.Proofs.Ytapmhmkekkhhpaa.Pure
