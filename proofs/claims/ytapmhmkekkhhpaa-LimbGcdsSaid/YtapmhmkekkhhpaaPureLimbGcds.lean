/- Any two naturals have the common divisor that the reference says. No conditions. -/
import Derived.Test.YtapmhmkekkhhpaaLLimbGcds
namespace Go.Proofs.Ytapmhmkekkhhpaa.Pure
open Go.RowKit Go.Proofs.Ytapmhmkekkhhpaa.PLimbGcds Go.Proofs.YtapmhmkekkhhpaaW.PrintWords Go.Proofs.YtapmhmkekkhhpaaW.PrintLast Go.Proofs.YtapmhmkekkhhpaaW.PrintMore Go.Proofs.Ytapmhmkekkhhpaa.LLimbGcds
set_option linter.unusedSimpArgs false
set_option linter.unusedVariables false

/-- A limb list's length is nought where its worth is. -/
theorem len_zero {x : Int} (hx : 0 ≤ x) : (natL x).length = 0 ↔ x = 0 := by
  constructor
  · intro h
    have := List.eq_nil_of_length_eq_zero h
    have e := val_natL hx
    rw [this] at e; simp only [val] at e; omega
  · intro h; subst h; rw [natL_zero]; rfl
/-- Each rest but the first is at most half of what stands two places before it: so many steps at most. -/
theorem halves {x y : Int} (hy : 0 < y) (hxy : y ≤ x) : x % y < y ∧ 0 ≤ x % y ∧ 2 * (x % y) < x := by
  have h1 := Int.emod_lt_of_pos x hy
  have h2 := Int.emod_nonneg x (show y ≠ 0 by omega)
  have h3 := Int.mul_ediv_add_emod x y
  have h4 : 1 ≤ x / y := by
    rcases Int.lt_or_le (x / y) 1 with h | h
    · exfalso
      have h5 := Int.ediv_nonneg (show 0 ≤ x by omega) (show 0 ≤ y by omega)
      rw [show x / y = 0 by omega] at h3; omega
    · exact h
  have h5 := Int.mul_le_mul_of_nonneg_left h4 (show 0 ≤ y by omega)
  omega
/-- Two loops that take the same rests end alike: with the divisor below p2 d, after 2 d + 1 steps at most. -/
theorem both_loop {L : Nat} (hL : L ≤ 410) : ∀ (d k k2 : Nat) (x y : Int), 0 ≤ x → 0 ≤ y → x < pw L → y < pw L → y < p2 d → d * 2 + 50000 < k → d * 2 + 50000 < k2 →
    ∃ g : Int, 0 ≤ g ∧ g < pw L ∧ limb_Gcd.l0 k (natL x) (natL y) = some (natL g, 0) ∧ psephosref01_gcd.l0 k2 (natL x) (natL y) = some (natL g) := by
  intro d
  induction d using Nat.strongRecOn with
  | _ d ih =>
    intro k k2 x y hx hy hxL hyL hyd hk hk2
    obtain ⟨k, rfl⟩ : ∃ m, k = m + 1 := ⟨k - 1, by omega⟩
    obtain ⟨k2, rfl⟩ : ∃ m, k2 = m + 1 := ⟨k2 - 1, by omega⟩
    have lx := natL_len_le hx hxL
    have ly := natL_len_le hy hyL
    have fx := natL_fm x; have fy := natL_fm y
    have vx := val_natL hx; have vy := val_natL hy
    by_cases h0 : y = 0
    · have hz : (natL y).length = 0 := (len_zero hy).2 h0
      refine ⟨x, hx, hxL, ?_, ?_⟩
      · simp only [limb_Gcd.l0]
        rw [if_neg (by omega), dclone_ev (by omega), Option.bind_some]
      · simp only [psephosref01_gcd.l0]
        rw [if_neg (by omega), rtrim_ev (by omega) (by omega), trim_natL fx.1, vx, Option.bind_some]
    · have hz : (natL y).length ≠ 0 := fun h => h0 ((len_zero hy).1 h)
      have hy1 : 0 < y := by omega
      have r0 := Int.emod_nonneg x h0
      have r1 := Int.emod_lt_of_pos x hy1
      obtain ⟨z, hze⟩ : ∃ z, z = x % y := ⟨_, rfl⟩
      rw [← hze] at r0 r1
      have hzL : z < pw L := by omega
      have lz := natL_len_le r0 hzL
      have fz := natL_fm z; have vz := val_natL r0
      have s1 : ∀ k : Nat, 40000 < k → limb_Gcd.l0 (k + 1) (natL x) (natL y) = limb_Gcd.l0 k (natL y) (natL z) := by
        intro k hk
        simp only [limb_Gcd.l0]
        rw [if_pos (by omega), divide_ev fx fy hz (by omega) (by omega) (by omega), Option.bind_some, vx, vy, ← hze]
      have s2 : ∀ k : Nat, 40000 < k → psephosref01_gcd.l0 (k + 1) (natL x) (natL y) = psephosref01_gcd.l0 k (natL y) (natL z) := by
        intro k hk
        simp only [psephosref01_gcd.l0]
        rw [if_pos (by omega), rdivMod_ev fx fy hz (by omega) (by omega) (by omega), Option.bind_some, vx, vy, ← hze]
      rw [s1 k (by omega), s2 k2 (by omega)]
      -- a second step, unless it ends
      by_cases hz0 : z = 0
      · have d1 : 0 < d := by
          rcases Nat.eq_zero_or_pos d with h | h
          · subst h; rw [show p2 0 = 1 by decide +kernel] at hyd; omega
          · exact h
        obtain ⟨g, g1, g2, g3, g4⟩ := ih 0 d1 k k2 y z hy r0 hyL hzL (by rw [show p2 0 = 1 by decide +kernel]; omega) (by omega) (by omega)
        exact ⟨g, g1, g2, g3, g4⟩
      · have hz1 : (natL z).length ≠ 0 := fun h => hz0 ((len_zero r0).1 h)
        obtain ⟨w1, w2, w3⟩ := halves (x := y) (y := z) (by omega) (by omega)
        obtain ⟨w, hwe⟩ : ∃ w, w = y % z := ⟨_, rfl⟩
        rw [← hwe] at w1 w2 w3
        have hwL : w < pw L := by omega
        obtain ⟨k, rfl⟩ : ∃ m, k = m + 1 := ⟨k - 1, by omega⟩
        obtain ⟨k2, rfl⟩ : ∃ m, k2 = m + 1 := ⟨k2 - 1, by omega⟩
        have t1 : limb_Gcd.l0 (k + 1) (natL y) (natL z) = limb_Gcd.l0 k (natL z) (natL w) := by
          simp only [limb_Gcd.l0]
          rw [if_pos (by omega), divide_ev fy fz hz1 (by omega) (by omega) (by omega), Option.bind_some, vy, vz, ← hwe]
        have t2 : psephosref01_gcd.l0 (k2 + 1) (natL y) (natL z) = psephosref01_gcd.l0 k2 (natL z) (natL w) := by
          simp only [psephosref01_gcd.l0]
          rw [if_pos (by omega), rdivMod_ev fy fz hz1 (by omega) (by omega) (by omega), Option.bind_some, vy, vz, ← hwe]
        rw [t1, t2]
        obtain ⟨e, rfl⟩ : ∃ e, d = e + 1 := by
          rcases d with _ | e
          · exfalso; rw [show p2 0 = 1 by decide +kernel] at hyd; omega
          · exact ⟨e, rfl⟩
        rw [p2_succ] at hyd
        exact ih e (by omega) k k2 z w r0 w2 hzL hwL (by omega) (by omega) (by omega)

theorem rFormed2 {a b : List Int} (ha : a.length ≤ 410) (hb : b.length ≤ 410) {k : Nat} : psephosref01_Gcd.f k a b = if fmB a = true ∧ fmB b = true then (psephosref01_gcd.f k a b).bind fun t => some (t, 0) else some ([], 1) := by
  unfold psephosref01_Gcd.f
  rw [rFormed_ev (by omega), rFormed_ev (by omega), Option.bind_some, Option.bind_some]
  cases fmB a <;> cases fmB b <;> simp
theorem gcd_j {a b : List Int} (ha : Lm a) (hb : Lm b) (hla : a.length ≤ 30) (hlb : b.length ≤ 30) {k : Nat} (hk : 100000 < k) : psephoslaw01_LimbGcds.j0 (k + 1) a b false = some true := by
  have hs : ∀ l : List Int, l.length ≤ 30 → psephoslaw01_same.f k l l = some true := by
    intro l hl
    unfold psephoslaw01_same.f; rw [same_self (by omega) (by omega)]; rfl
  simp only [psephoslaw01_LimbGcds.j0]
  rw [if_neg (by simp)]
  unfold limb_Gcd.f
  rw [formed2_ev (by omega) (by omega) (by omega), Option.bind_some, rFormed2 (by omega) (by omega)]
  by_cases h : fmB a = true ∧ fmB b = true
  · obtain ⟨ea, l1, f1⟩ := fmB_nat ha h.1
    obtain ⟨eb, l2, f2⟩ := fmB_nat hb h.2
    have A := val_lt_pw ha; have B := val_lt_pw hb
    have A2 := pw_le hla; have B2 := pw_le hlb
    obtain ⟨g, g1, g2, g3, g4⟩ := both_loop (L := 30) (by omega) 960 k k (val a) (val b) (val_nonneg ha) (val_nonneg hb) (by omega) (by omega) (by rw [show 960 = 32 * 30 from rfl, p2_pw]; omega) (by omega) (by omega)
    rw [← ea, ← eb] at g3 g4
    unfold psephosref01_gcd.f
    rw [if_pos (by simp [h.1, h.2]), if_pos h, g3, g4]
    simp only [Option.bind_some]
    rw [hs _ (natL_len_le g1 g2)]; simp
  · rw [if_neg (by simpa using h), if_neg h]
    simp only [Option.bind_some]
    rw [hs _ (by simp)]; simp
theorem LimbGcds : psephoslaw01_LimbGcds.Pure := by
  intro a b _ hal hwa _ hbl hwb
  have ha : Lm a := fun x hx => bu32 (hwa x hx)
  have hb : Lm b := fun x hx => bu32 (hwb x hx)
  obtain ⟨K, hK⟩ := awake_ev
  obtain ⟨k, hk1, hk2⟩ : ∃ k, K ≤ k ∧ 100000 < k := ⟨K + 100001, by omega, by omega⟩
  refine ⟨k + 1, ?_⟩
  have hA := hK (k + 1) (by omega)
  have hj : psephoslaw01_LimbGcds.j0 (k + 1) a b true = some true := by
    simp only [psephoslaw01_LimbGcds.j0, if_true]; rw [hK _ (by omega)]; rfl
  have hfew := few_all (ls := [a, b]) (k := k + 1) (by simp) (by simp; omega)
  unfold psephoslaw01_LimbGcds.f
  rw [hA, Option.bind_some, if_pos rfl, hfew, Option.bind_some]
  split
  · by_cases h1 : a.length ≤ 30
    · rw [if_neg (by omega)]
      by_cases h2 : b.length ≤ 30
      · rw [show decide ((b.length : Int) > 30) = false from decide_eq_false (by omega)]
        exact gcd_j ha hb h1 h2 hk2
      · rw [show decide ((b.length : Int) > 30) = true from decide_eq_true (by omega)]; exact hj
    · rw [if_pos (by omega)]; exact hj
  · exact hj

end Go.Proofs.Ytapmhmkekkhhpaa.Pure
