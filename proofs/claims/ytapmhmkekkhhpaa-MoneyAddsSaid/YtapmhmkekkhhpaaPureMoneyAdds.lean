/- Any two amounts are added and subtracted, and any list of at most 1000 amounts is summed, as the reference says. No conditions. -/
import Derived.Test.YtapmhmkekkhhpaaPMoneyAddsx
import Derived.Test.YtapmhmkekkhhpaaLMoneyAddsBase
namespace Go.Proofs.Ytapmhmkekkhhpaa.Pure
open Go.RowKit Go.Proofs.Ytapmhmkekkhhpaa.PMoneyAdds Go.Proofs.YtapmhmkekkhhpaaW.PrintWords Go.Proofs.YtapmhmkekkhhpaaW.PrintLast Go.Proofs.Ytapmhmkekkhhpaa.LMoneyAdds

theorem add_same (a b : Int) (ha : 0 ≤ a ∧ a ≤ 18446744073709551615) (hb : 0 ≤ b ∧ b ≤ 18446744073709551615) : money_Add.f a b = psephosref03_Add.f a b := by
  unfold money_Add.f psephosref03_Add.f
  simp only [wu64]
  by_cases h : a + b ≤ 18446744073709551615
  · rw [if_pos (by omega), if_neg (by omega)]
  · rw [if_neg (by omega), if_pos (by omega)]

theorem sum_ends (l : List Int) (hl : l.length ≤ 1000) (hw : ∀ x ∈ l, 0 ≤ x ∧ x ≤ 18446744073709551615) (d : Nat) : ∀ (k : Nat) (i s : Int), 0 ≤ i → i ≤ l.length → (l.length : Int) - i = d → d < k → 0 ≤ s → s ≤ 18446744073709551615 →
    ∃ r, money_Sum.l0 k s l (l.length : Int) i = some r ∧ psephosref03_Sum.l0 k l s (l.length : Int) i = some r := by
  induction d with
  | zero =>
    intro k i s h0 h1 hd hk hs hs'
    obtain ⟨k, rfl⟩ : ∃ m, k = m + 1 := ⟨k - 1, by omega⟩
    refine ⟨(s, 0), ?_, ?_⟩
    · simp only [money_Sum.l0]; rw [if_neg (by omega)]
    · simp only [psephosref03_Sum.l0]; rw [if_neg (by omega)]
  | succ d ih =>
    intro k i s h0 h1 hd hk hs hs'
    obtain ⟨k, rfl⟩ : ∃ m, k = m + 1 := ⟨k - 1, by omega⟩
    have hlt : i < (l.length : Int) := by omega
    obtain ⟨x0, x1⟩ := hw _ (rd_mem h0 hlt)
    have hwi : wrap64 (i + 1) = i + 1 := wi64 (by omega) (by omega)
    have hadd := add_same s (rd l i) ⟨hs, hs'⟩ ⟨x0, x1⟩
    simp only [money_Sum.l0, psephosref03_Sum.l0]
    rw [if_pos hlt, if_pos h0, if_pos hlt, if_pos hlt, if_pos h0, if_pos hlt, ← hadd, hwi]
    unfold money_Add.f
    simp only [wu64]
    by_cases hc : s + rd l i ≤ 18446744073709551615
    · obtain ⟨r, hr⟩ := ih k (i + 1) ((s + rd l i) % 18446744073709551616) (by omega) (by omega) (by omega) (by omega) (by omega) (by omega)
      refine ⟨r, ?_, ?_⟩
      · rw [if_neg (by omega)]; exact hr.1
      · rw [if_pos (by omega)]; simp only [Option.bind_some, if_true]; exact hr.2
    · refine ⟨(0, 3), ?_, ?_⟩
      · rw [if_pos (by omega)]
      · rw [if_neg (by omega)]; simp

theorem MoneyAdds : psephoslaw06_MoneyAdds.Pure := by
  intro a b l ha hb hlm hl8 hw
  have hw' : ∀ x ∈ l, 0 ≤ x ∧ x ≤ 18446744073709551615 := fun x hx => bu64 (hw x hx)
  have hawake : psephoslaw06_awake.f = some true := by
    unfold psephoslaw06_awake.f money_Add.f; simp [wu64]
  refine ⟨l.length + 2, ?_⟩
  unfold psephoslaw06_MoneyAdds.f
  rw [hawake]; simp only [Option.bind_some, if_true]
  simp only [psephoslaw06_MoneyAdds.j0, hawake, Option.bind_some]
  by_cases hl : l.length ≤ 1000
  · obtain ⟨r, h1, h2⟩ := sum_ends l hl hw' l.length (l.length + 1) 0 0 (by omega) (by omega) (by omega) (by omega) (by omega) (by omega)
    rw [if_neg (by simp; omega)]
    have e1 : money_Sum.f (l.length + 1) l = some r := h1
    have e2 : psephosref03_Sum.f (l.length + 1) l = some r := h2
    rw [e1, e2, add_same a b (bu64 ha) (bu64 hb)]
    have hsub : money_Sub.f a b = psephosref03_Sub.f a b := rfl
    rw [hsub]
    obtain ⟨p, hp⟩ : ∃ p, psephosref03_Add.f a b = some p := by unfold psephosref03_Add.f; split <;> exact ⟨_, rfl⟩
    obtain ⟨q, hq⟩ : ∃ q, psephosref03_Sub.f a b = some q := by unfold psephosref03_Sub.f; split <;> exact ⟨_, rfl⟩
    rw [hp, hq]
    simp
  · rw [if_pos (by simp; omega)]

end Go.Proofs.Ytapmhmkekkhhpaa.Pure
