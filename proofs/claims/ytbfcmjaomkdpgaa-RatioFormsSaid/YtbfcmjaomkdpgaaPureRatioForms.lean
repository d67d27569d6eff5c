/- Any two lists of limbs are a fraction just where the reference says so, and any two numbers make the fraction that it says. No conditions. -/
import Derived.Test.YtbfcmjaomkdpgaaLRatioForms
namespace Go.Proofs.Ytbfcmjaomkdpgaa.Pure
open Go.RowKit Go.Proofs.Ytbfcmjaomkdpgaa.PRatioForms Go.Proofs.YtbfcmjaomkdpgaaW.PrintWords Go.Proofs.YtbfcmjaomkdpgaaW.PrintLast Go.Proofs.YtbfcmjaomkdpgaaW.PrintMore Go.Proofs.Ytbfcmjaomkdpgaa.LRatioForms
set_option linter.unusedSimpArgs false
set_option linter.unusedVariables false

theorem rMake_ev {a b : List Int} (ha : Lm a) (hb : Lm b) (hal : a.length < 1048576) (hbl : b.length < 1048576) : Ev (fun k => psephosref01_Make.f k a b) (makeS a b) := by
  by_cases h : fmB a = true ∧ fmB b = true
  · have fa := ((fmB_iff ha).1 h.1).2
    have fb := ((fmB_iff hb).1 h.2).2
    by_cases h0 : b.length = 0
    · refine ⟨1, fun k hk => ?_⟩
      obtain ⟨k, rfl⟩ : ∃ m, k = m + 1 := ⟨k - 1, by omega⟩
      dsimp only
      unfold psephosref01_Make.f makeS
      rw [rFormed_ev (by omega), rFormed_ev (by omega), h.1, h.2, Option.bind_some, if_pos rfl, Option.bind_some, if_pos ⟨rfl, rfl⟩, if_pos h0]
      simp only [psephosref01_Make.j0]
      rw [if_neg (by simp), if_pos (by omega)]
    · obtain ⟨K, hK⟩ := lowest_ev fa fb h0 hal hbl
      dsimp only at hK
      refine ⟨K + 1, fun k hk => ?_⟩
      obtain ⟨k, rfl⟩ : ∃ m, k = m + 1 := ⟨k - 1, by omega⟩
      dsimp only
      unfold psephosref01_Make.f makeS
      rw [rFormed_ev (by omega), rFormed_ev (by omega), h.1, h.2, Option.bind_some, if_pos rfl, Option.bind_some, if_pos ⟨rfl, rfl⟩, if_neg h0]
      simp only [psephosref01_Make.j0]
      rw [if_neg (by simp), if_neg (by omega), hK k (by omega)]; rfl
  · refine ⟨1, fun k hk => ?_⟩
    obtain ⟨k, rfl⟩ : ∃ m, k = m + 1 := ⟨k - 1, by omega⟩
    dsimp only
    unfold psephosref01_Make.f makeS
    rw [rFormed_ev (by omega), rFormed_ev (by omega), if_neg h]
    simp only [psephosref01_Make.j0]
    cases e1 : fmB a <;> cases e2 : fmB b <;> simp_all
theorem sameR_ev {a b : List Int} (ha : a.length < 1048576) (hb : b.length < 1048576) {k : Nat} (hk : 1048576 < k) : psephoslaw02_Same.f k a b a b = some true := by
  unfold psephoslaw02_Same.f psephoslaw02_Ours.f psephosref01_SameRatio.f
  simp only [Option.bind_some]
  rw [same_self (by omega) (by omega), Option.bind_some, if_pos rfl, same_self (by omega) (by omega)]; rfl
theorem lowS_len {a b : List Int} (hb : 0 < val b) (ha0 : 0 ≤ val a) {n : Nat} (ha : val a < pw n) (hb' : val b < pw n) : (lowS a b).1.length ≤ n ∧ (lowS a b).2.length ≤ n := by
  have g0 := gcdI_pos (x := val a) hb
  unfold lowS
  obtain ⟨g, hg⟩ : ∃ g, g = gcdI (val a) (val b) := ⟨_, rfl⟩
  rw [← hg] at g0 ⊢
  have h1 := Int.ediv_nonneg ha0 (show 0 ≤ g by omega)
  have h2 := Int.ediv_nonneg (show 0 ≤ val b by omega) (show 0 ≤ g by omega)
  have h3 := Int.ediv_le_self (b := g) ha0
  have h4 := Int.ediv_le_self (b := g) (show 0 ≤ val b by omega)
  exact ⟨natL_len_le h1 (by omega), natL_len_le h2 (by omega)⟩
theorem makeS_len {a b : List Int} (ha : Lm a) (hb : Lm b) : (makeS a b).1.length ≤ 400 ∧ (makeS a b).2.1.length ≤ 400 := by
  unfold makeS
  by_cases h : fmB a = true ∧ fmB b = true
  · rw [if_pos h]
    by_cases h0 : b.length = 0
    · rw [if_pos h0]; simp
    · rw [if_neg h0]
      obtain ⟨ea, la, va, pa⟩ := fm_of ha h.1
      obtain ⟨eb, lb, vb, pb⟩ := fm_of hb h.2
      exact lowS_len (val_pos_of ((fmB_iff hb).1 h.2).2 h0) va pa pb
  · rw [if_neg h]; simp
theorem forms_j {a b : List Int} (ha : Lm a) (hb : Lm b) (hal : a.length ≤ 24) (hbl : b.length ≤ 24) {n d : Int} (hn0 : 0 ≤ n) (hn1 : n ≤ 18446744073709551615) (hd0 : 0 ≤ d) (hd1 : d ≤ 18446744073709551615) :
    Ev (fun k => psephoslaw02_RatioForms.j0 k n d false a b) true := by
  obtain ⟨K1, h1⟩ := Make_ev ha hb (by omega) (by omega)
  obtain ⟨K2, h2⟩ := rMake_ev ha hb (by omega) (by omega)
  obtain ⟨K3, h3⟩ := Of_ev n d
  obtain ⟨K5, h5⟩ := rat_Formed_ev ha hb (by omega) (by omega)
  obtain ⟨K6, h6⟩ := rFormedRatio_ev ha hb (by omega) (by omega)
  have l1 := makeS_len ha hb
  dsimp only at h1 h2 h3 h5 h6
  by_cases h0 : d = 0
  · refine ⟨K1 + K2 + K3 + K5 + K6 + 2000000, fun k hk => ?_⟩
    obtain ⟨k, rfl⟩ : ∃ m, k = m + 1 := ⟨k - 1, by omega⟩
    simp only [psephoslaw02_RatioForms.j0]
    rw [if_neg (by simp), h1 k (by omega), h2 k (by omega), h3 k (by omega)]
    simp only [Option.bind_some]
    rw [if_pos h0, sameR_ev (by omega) (by omega) (by omega), Option.bind_some, if_pos rfl, if_pos trivial, makeS_of hd0 hd1, if_pos h0]; rfl
  · obtain ⟨K4, h4⟩ := Frac_ev (n := n) (d := d) (by omega) hd1
    dsimp only at h4
    have hv := ofN_val hd0 hd1
    have hu := ofN_val hn0 hn1
    have l2 := lowS_len (a := ofN n) (b := ofN d) (by omega) (by omega) (n := 400) (by have := val_lt_pw (ofN_fm n).1; have := pw_le (show (ofN n).length ≤ 400 by have := ofN_len n; omega); omega) (by have := val_lt_pw (ofN_fm d).1; have := pw_le (show (ofN d).length ≤ 400 by have := ofN_len d; omega); omega)
    refine ⟨K1 + K2 + K3 + K4 + K5 + K6 + 2000000, fun k hk => ?_⟩
    obtain ⟨k, rfl⟩ : ∃ m, k = m + 1 := ⟨k - 1, by omega⟩
    have e3 := h3 k (by omega)
    rw [makeS_of hd0 hd1, if_neg h0] at e3
    simp only [psephoslaw02_RatioForms.j0]
    rw [if_neg (by simp), h1 k (by omega), h2 k (by omega), e3]
    simp only [Option.bind_some]
    rw [if_neg h0, sameR_ev (by omega) (by omega) (by omega), Option.bind_some, if_pos rfl, if_pos trivial, if_pos trivial, h4 k (by omega), Option.bind_some, sameR_ev (by omega) (by omega) (by omega), Option.bind_some, if_pos rfl]
    unfold psephoslaw02_Theirs.f
    rw [Option.bind_some, h5 k (by omega), h6 k (by omega)]; simp
theorem RatioForms {a b : List Int} (ha : Lm a) (hb : Lm b) {n d : Int} (hn0 : 0 ≤ n) (hn1 : n ≤ 18446744073709551615) (hd0 : 0 ≤ d) (hd1 : d ≤ 18446744073709551615) : ∃ k, psephoslaw02_RatioForms.f k a b n d = some true := by
  obtain ⟨K1, h1⟩ := rat_awake_ev
  obtain ⟨K2, h2⟩ := few02_ev [(⟨a, b⟩ : S39)] (by simp)
  dsimp only at h1 h2
  by_cases hf : a.length ≤ 24 ∧ b.length ≤ 24
  · obtain ⟨K3, h3⟩ := forms_j ha hb hf.1 hf.2 hn0 hn1 hd0 hd1
    dsimp only at h3
    refine ⟨K1 + K2 + K3, ?_⟩
    unfold psephoslaw02_RatioForms.f
    rw [h1 _ (by omega), Option.bind_some, if_pos rfl, h2 _ (by omega), Option.bind_some, show (!([(⟨a, b⟩ : S39)].all fewR)) = false by simp [fewR, hf.1, hf.2]]
    exact h3 _ (by omega)
  · refine ⟨K1 + K2 + 1, ?_⟩
    unfold psephoslaw02_RatioForms.f
    rw [h1 _ (by omega), Option.bind_some, if_pos rfl, h2 _ (by omega), Option.bind_some, show (!([(⟨a, b⟩ : S39)].all fewR)) = true by simp [fewR]; omega]
    simp only [psephoslaw02_RatioForms.j0, if_true]
    rw [h1 _ (by omega)]; rfl

end Go.Proofs.Ytbfcmjaomkdpgaa.Pure
