/- The statements' own first questions of layer 1: awake says yes, few says whether all lists have at most 410 elements. No conditions beyond bounds on lengths. -/
import Derived.Test.YtapmhmkekkhhpaaLLimbFormsCore
namespace Go.Proofs.Ytapmhmkekkhhpaa.LLimbForms
open Go.RowKit Go.Proofs.Ytapmhmkekkhhpaa.PLimbForms Go.Proofs.YtapmhmkekkhhpaaW.PrintWords Go.Proofs.YtapmhmkekkhhpaaW.PrintLast Go.Proofs.YtapmhmkekkhhpaaW.PrintMore
set_option linter.unusedSimpArgs false
set_option linter.unusedVariables false

theorem awake_ev : ∃ K, ∀ k, K ≤ k → psephoslaw01_awake.f k = some true :=
  Ev.of (g := fun k => psephoslaw01_awake.f k) (fun k => psephoslaw01_awake.mono k) (k := 9) (by decide +kernel)
theorem few_ev : ∀ (d : Nat) (ls : List (List Int)) (k : Nat) (i : Int), 0 ≤ i → (ls.length : Int) - i = d → ls.length < 1099511627776 → d < k →
    psephoslaw01_few.l0 k ls (ls.length : Int) i = some ((ls.drop i.toNat).all (fun l => decide (l.length ≤ 410))) := by
  intro d
  induction d with
  | zero =>
    intro ls k i h0 hd _ hk
    obtain ⟨k, rfl⟩ : ∃ m, k = m + 1 := ⟨k - 1, by omega⟩
    simp only [psephoslaw01_few.l0]; rw [if_neg (by omega), List.drop_eq_nil_of_le (by omega)]; rfl
  | succ d ih =>
    intro ls k i h0 hd hl hk
    obtain ⟨k, rfl⟩ : ∃ m, k = m + 1 := ⟨k - 1, by omega⟩
    have hi : i.toNat < ls.length := by omega
    have hrd : rd_L1 ls i = ls[i.toNat] := by unfold rd_L1; rw [List.getD_eq_getElem?_getD, List.getElem?_eq_getElem hi]; rfl
    have hdr : ls.drop i.toNat = ls[i.toNat] :: ls.drop (i + 1).toNat := by rw [List.drop_eq_getElem_cons hi, show (i + 1).toNat = i.toNat + 1 by omega]
    simp only [psephoslaw01_few.l0]
    rw [if_pos (by omega), if_pos h0, if_pos (by omega), hdr, List.all_cons, ← hrd]
    by_cases h : (rd_L1 ls i).length ≤ 410
    · rw [if_neg (by omega), wi64 (by omega) (by omega), ih ls k (i + 1) (by omega) (by omega) hl (by omega)]; simp [h]
    · rw [if_pos (by omega)]; simp [h]
theorem few_all {ls : List (List Int)} (hl : ls.length < 1099511627776) {k : Nat} (hk : ls.length < k) : psephoslaw01_few.f k ls = some (ls.all (fun l => decide (l.length ≤ 410))) := by
  have := few_ev ls.length ls k 0 (by omega) (by omega) hl hk
  unfold psephoslaw01_few.f
  simpa using this

end Go.Proofs.Ytapmhmkekkhhpaa.LLimbForms
