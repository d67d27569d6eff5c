/- What the reference's trim, Formed, cmp and Same come to. Conditions: lists of limbs, of fewer than 2^40 elements. -/
import Derived.Test.YtapmhmkekkhhpaaLLimbFormsCore
namespace Go.Proofs.Ytapmhmkekkhhpaa.LLimbForms
open Go.RowKit Go.Proofs.Ytapmhmkekkhhpaa.PLimbForms Go.Proofs.YtapmhmkekkhhpaaW.PrintWords Go.Proofs.YtapmhmkekkhhpaaW.PrintLast Go.Proofs.YtapmhmkekkhhpaaW.PrintMore
set_option linter.unusedSimpArgs false
set_option linter.unusedVariables false

theorem rtrim_k : ∀ (n : Nat) (l : List Int), n ≤ l.length → l.length < 1099511627776 → ∀ k, n < k → psephosref01_trim.l0 k l n = some (trimL (l.take n)) := by
  intro n
  induction n with
  | zero =>
    intro l _ hl k hk
    obtain ⟨k, rfl⟩ : ∃ m, k = m + 1 := ⟨k - 1, by omega⟩
    simp only [psephosref01_trim.l0]
    rw [if_neg (by omega)]; simp [trimL]
  | succ n ih =>
    intro l hn hl k hk
    obtain ⟨k, rfl⟩ : ∃ m, k = m + 1 := ⟨k - 1, by omega⟩
    have hw : wrap64 (((n + 1 : Nat) : Int) - 1) = (n : Int) := by rw [wi64 (by omega) (by omega)]; omega
    have e := take_rd (xs := l) (i := (n : Int)) (by omega) (by omega)
    rw [show ((n : Int) + 1).toNat = n + 1 by omega, show (n : Int).toNat = n by omega] at e
    simp only [psephosref01_trim.l0]
    rw [hw, if_pos (by omega), if_pos (by omega), if_pos (by omega), e]
    by_cases h0 : rd l (n : Int) = 0
    · rw [if_pos h0, h0, trimL_snoc_zero]
      exact ih l (by omega) hl k (by omega)
    · rw [if_neg h0, trimL_snoc_ne _ h0, ← e]
      simp only [Option.bind_some]
      rw [if_pos (by omega), if_pos (by omega), show (((n + 1 : Nat) : Int)).toNat = n + 1 by omega, if_pos (by simp; omega)]
      simp
theorem rtrim_ev {l : List Int} (h : l.length < 1099511627776) {k : Nat} (hk : l.length < k) : psephosref01_trim.f k l = some (trimL l) := by
  have := rtrim_k l.length l (by omega) h k hk
  rw [List.take_length] at this; exact this
theorem rFormed_ev {l : List Int} (h : l.length < 1099511627776) : psephosref01_Formed.f l = some (fmB l) := Formed_ev h
theorem rcmp_self : ∀ (n : Nat) (l : List Int), n ≤ l.length → l.length < 1099511627776 → ∀ k, n < k → psephosref01_cmp.l0 k l l ((n : Int) - 1) = some 0 := by
  intro n
  induction n with
  | zero =>
    intro l _ _ k hk
    obtain ⟨k, rfl⟩ : ∃ m, k = m + 1 := ⟨k - 1, by omega⟩
    simp only [psephosref01_cmp.l0]; rw [if_neg (by omega)]
  | succ n ih =>
    intro l hn hl k hk
    obtain ⟨k, rfl⟩ : ∃ m, k = m + 1 := ⟨k - 1, by omega⟩
    simp only [psephosref01_cmp.l0]
    rw [if_pos (by omega), if_pos (by omega), if_pos (by omega), if_pos (by omega), if_neg (by omega), if_neg (by omega), wi64 (by omega) (by omega)]
    have := ih l (by omega) hl k (by omega)
    rw [show ((n + 1 : Nat) : Int) - 1 - 1 = (n : Int) - 1 by omega]; exact this
theorem same_self {l : List Int} (h : l.length < 1099511627776) {k : Nat} (hk : l.length < k) : psephosref01_Same.f k l l = some true := by
  unfold psephosref01_Same.f psephosref01_cmp.f
  rw [if_pos rfl, if_pos rfl, wi64 (by omega) (by omega), rcmp_self l.length l (by omega) h k hk]; rfl

end Go.Proofs.Ytapmhmkekkhhpaa.LLimbForms
