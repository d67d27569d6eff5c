/- What was multiplied and added to is divided back. No conditions. -/
import Derived.Test.YtapmhmkekkhhpaaLLimbBack
namespace Go.Proofs.Ytapmhmkekkhhpaa.Pure
open Go.RowKit Go.Proofs.Ytapmhmkekkhhpaa.PLimbBack Go.Proofs.YtapmhmkekkhhpaaW.PrintWords Go.Proofs.YtapmhmkekkhhpaaW.PrintLast Go.Proofs.YtapmhmkekkhhpaaW.PrintMore Go.Proofs.Ytapmhmkekkhhpaa.LLimbBack
set_option linter.unusedSimpArgs false
set_option linter.unusedVariables false

theorem fitN_small {v : Int} {n : Nat} (h0 : 0 ≤ v) (h : v < pw n) (hn : n ≤ 400) : fitN v = (natL v, 0) := by
  unfold fitN; rw [if_pos]
  have := ((natL_fm v).len_le n).2 (by rw [val_natL h0]; exact h); omega
theorem len_nat {x : Int} {n : Nat} (h : 0 ≤ x) (h' : x < pw n) : (natL x).length ≤ n := ((natL_fm x).len_le n).2 (by rw [val_natL h]; exact h')
theorem mul_pw {x y : Int} {m n : Nat} (hx : 0 ≤ x) (hy : 0 ≤ y) (hx' : x < pw m) (hy' : y < pw n) : 0 ≤ x * y ∧ x * y < pw (m + n) := by
  refine ⟨Int.mul_nonneg hx hy, ?_⟩
  rw [pw_add]
  have h1 := Int.mul_le_mul (show x ≤ pw m - 1 by omega) (show y ≤ pw n by omega) hy (show 0 ≤ pw m - 1 by omega)
  have h2 : (pw m - 1) * pw n = pw m * pw n - pw n := by rw [Int.sub_mul, Int.one_mul]
  have := pw_pos n
  omega
theorem back_core {a b c : Int} (hc0 : 0 ≤ c) (hcb : c < b) : (a * b + c) / b = a ∧ (a * b + c) % b = c := by
  constructor
  · rw [Int.add_comm, Int.add_mul_ediv_right _ _ (by omega), Int.ediv_eq_zero_of_lt hc0 hcb]; omega
  · rw [Int.add_comm, Int.add_mul_emod_self_right, Int.emod_eq_of_lt hc0 hcb]
/-- What is formed, its worth and its length. -/
theorem formed_nat {n : Int} (h : (natL n).length ≤ 400) : fmB (natL n) = true := fmB_natL h
theorem back_j {a b c : List Int} (ha : Lm a) (hb : Lm b) (hc : Lm c) (hfa : fmB a = true) (hfb : fmB b = true) (hfc : fmB c = true) (hl : a.length + b.length ≤ 390) (hcb : val c < val b) {k : Nat} (hk : 400000 < k) :
    psephoslaw01_LimbBack.j0 (k + 1) a b c false = some true := by
  obtain ⟨ea, la, fa⟩ := fmB_nat ha hfa
  obtain ⟨eb, lb, fb⟩ := fmB_nat hb hfb
  obtain ⟨ec, lc, fc⟩ := fmB_nat hc hfc
  have A0 := val_nonneg ha; have B0 := val_nonneg hb; have C0 := val_nonneg hc
  have AP := val_lt_pw ha; have BP := val_lt_pw hb; have CP := val_lt_pw hc
  obtain ⟨m0, m1⟩ := mul_pw A0 B0 AP BP
  have m2 : val a * val b < pw 391 := by have := pw_le (show a.length + b.length ≤ 391 by omega); omega
  have BP' : val c < pw 391 := by have := pw_le (show b.length ≤ 391 by omega); omega
  have s1 : val a * val b + val c < pw 392 := by rw [show 392 = 391 + 1 from rfl, pw_succ]; have := pw_pos 391; omega
  have lm : (natL (val a * val b)).length ≤ 391 := len_nat m0 m2
  have ls : (natL (val a * val b + val c)).length ≤ 392 := len_nat (by omega) s1
  have hmul : mulS a b = (natL (val a * val b), 0) := by
    unfold mulS; rw [if_pos ⟨hfa, hfb⟩, fitN_small m0 m2 (by omega)]
  have hadd : addS (natL (val a * val b)) c = (natL (val a * val b + val c), 0) := by
    unfold addS; rw [if_pos ⟨fmB_natL (by omega), hfc⟩, val_natL m0, fitN_small (by omega) s1 (by omega)]
  obtain ⟨q1, q2⟩ := back_core (a := val a) C0 hcb
  have hb0 : ¬ b.length = 0 := by
    intro h
    rw [List.eq_nil_of_length_eq_zero h] at hcb; simp only [val] at hcb; omega
  have hdiv : divS (natL (val a * val b + val c)) b = (a, c, 0) := by
    unfold divS; rw [if_pos ⟨fmB_natL (by omega), hfb⟩, if_neg hb0, val_natL (by omega), q1, q2, ← ea, ← ec]
  have hca : cmpF a a = 0 := by
    unfold cmpF cmpS; rw [if_pos ⟨hfa, hfa⟩, if_neg (by omega), if_pos rfl]
  have hcc : cmpF c c = 0 := by
    unfold cmpF cmpS; rw [if_pos ⟨hfc, hfc⟩, if_neg (by omega), if_pos rfl]
  have hkm : (a.length + 1) * (b.length + 2) ≤ 391 * 392 := Nat.mul_le_mul (by omega) (by omega)
  simp only [psephoslaw01_LimbBack.j0]
  rw [if_neg (by simp), mul_ev ha hb (by omega) (by omega) (by omega), hmul]; simp only [Option.bind_some]
  rw [add_ev (natL_fm _).1 hc (by omega) (by omega) (by omega), hadd]; simp only [Option.bind_some]
  rw [divMod_ev (natL_fm _).1 hb (by omega) (by omega) (by omega), hdiv]; simp only [Option.bind_some, if_true]
  rw [Cmp_ev ha ha (by omega) (by omega) (by omega), hca]; simp only [Option.bind_some, if_true]
  rw [Cmp_ev hc hc (by omega) (by omega) (by omega), hcc]; simp
theorem wadd {m n : Nat} (h : m ≤ 410) (h' : n ≤ 410) : wrap64 ((m : Int) + (n : Int)) = (m : Int) + (n : Int) := wi64 (by omega) (by omega)
theorem back_f {a b c : List Int} (ha : Lm a) (hb : Lm b) (hc : Lm c) (f1 : a.length ≤ 410) (f2 : b.length ≤ 410) (f3 : c.length ≤ 410) {k : Nat} (hk : 400000 < k) (hA : psephoslaw01_awake.f (k + 1) = some true) (hF : psephoslaw01_few.f (k + 1) [a, b, c] = some true)
    (hj : psephoslaw01_LimbBack.j0 (k + 1) a b c true = some true) : psephoslaw01_LimbBack.f (k + 1) a b c = some true := by
  unfold psephoslaw01_LimbBack.f
  rw [hA, Option.bind_some, if_pos rfl, hF, Option.bind_some, if_pos rfl, wadd f1 f2]
  by_cases hl : a.length + b.length ≤ 390
  · rw [if_neg (by omega), Formed_ev (by omega), Formed_ev (by omega), Formed_ev (by omega)]; simp only [Option.bind_some]
    cases hfa : fmB a with
    | false => rw [if_neg (by simp)]; exact hj
    | true =>
      rw [if_pos rfl]
      cases hfb : fmB b with
      | false => rw [if_neg (by simp)]; exact hj
      | true =>
        rw [if_pos rfl]
        cases hfc : fmB c with
        | false => rw [if_neg (by simp)]; exact hj
        | true =>
          have e : cmpF c b = cmpS (val c) (val b) := by unfold cmpF; rw [if_pos ⟨hfc, hfb⟩]
          rw [if_pos rfl, Cmp_ev hc hb (by omega) (by omega) (by omega), Option.bind_some, e]
          by_cases h : val c < val b
          · have e2 : cmpS (val c) (val b) = -1 := by unfold cmpS; rw [if_pos h]
            have e3 : decide ((-1 : Int) ≥ 0) = false := by decide
            rw [e2, e3]
            exact back_j ha hb hc hfa hfb hfc hl h hk
          · have e2 : decide (cmpS (val c) (val b) ≥ 0) = true := decide_eq_true (by unfold cmpS; rw [if_neg h]; split <;> omega)
            rw [e2]; exact hj
  · rw [if_pos (by omega)]; exact hj
theorem LimbBack : psephoslaw01_LimbBack.Pure := by
  intro a b c _ hal hwa _ hbl hwb _ hcl hwc
  have ha : Lm a := fun x hx => bu32 (hwa x hx)
  have hb : Lm b := fun x hx => bu32 (hwb x hx)
  have hc : Lm c := fun x hx => bu32 (hwc x hx)
  obtain ⟨K, hK⟩ := awake_ev
  obtain ⟨k, hk1, hk2⟩ : ∃ k, K ≤ k ∧ 400000 < k := ⟨K + 400001, by omega, by omega⟩
  refine ⟨k + 1, ?_⟩
  have hA := hK (k + 1) (by omega)
  have hj : psephoslaw01_LimbBack.j0 (k + 1) a b c true = some true := by
    simp only [psephoslaw01_LimbBack.j0, if_true]; rw [hK _ (by omega)]; rfl
  have hfew := few_all (ls := [a, b, c]) (k := k + 1) (by simp) (by simp; omega)
  by_cases hf : (([a, b, c] : List (List Int)).all (fun l => decide (l.length ≤ 410))) = true
  · have hf' : a.length ≤ 410 ∧ b.length ≤ 410 ∧ c.length ≤ 410 := by simpa using hf
    rw [hf] at hfew
    exact back_f ha hb hc hf'.1 hf'.2.1 hf'.2.2 hk2 hA hfew hj
  · have hf2 : (([a, b, c] : List (List Int)).all (fun l => decide (l.length ≤ 410))) = false := by
      cases h : (([a, b, c] : List (List Int)).all (fun l => decide (l.length ≤ 410))) with
      | true => exact absurd h hf
      | false => rfl
    rw [hf2] at hfew
    unfold psephoslaw01_LimbBack.f
    rw [hA, Option.bind_some, if_pos rfl, hfew, Option.bind_some, if_neg (by simp)]
    exact hj

end Go.Proofs.Ytapmhmkekkhhpaa.Pure
