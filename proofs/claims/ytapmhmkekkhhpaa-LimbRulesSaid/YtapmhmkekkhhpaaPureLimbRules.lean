/- Sums and products are the same the other way round, go together as they should, and what was added is subtracted. No conditions. -/
import Derived.Test.YtapmhmkekkhhpaaLLimbRules
namespace Go.Proofs.Ytapmhmkekkhhpaa.Pure
open Go.RowKit Go.Proofs.Ytapmhmkekkhhpaa.PLimbRules Go.Proofs.YtapmhmkekkhhpaaW.PrintWords Go.Proofs.YtapmhmkekkhhpaaW.PrintLast Go.Proofs.YtapmhmkekkhhpaaW.PrintMore Go.Proofs.Ytapmhmkekkhhpaa.LLimbRules
set_option linter.unusedSimpArgs false
set_option linter.unusedVariables false

theorem fitN_small {v : Int} {n : Nat} (h0 : 0 ≤ v) (h : v < pw n) (hn : n ≤ 400) : fitN v = (natL v, 0) := by
  unfold fitN; rw [if_pos]
  have := (natL_len h0 n).2 h; omega
theorem cmpF_nat {a b : Int} {n : Nat} (ha : 0 ≤ a) (hb : 0 ≤ b) (ha' : a < pw n) (hb' : b < pw n) (hn : n ≤ 400) : cmpF (natL a) (natL b) = cmpS a b := by
  have h1 := (natL_len ha n).2 ha'; have h2 := (natL_len hb n).2 hb'
  unfold cmpF; rw [if_pos ⟨fmB_natL (by omega), fmB_natL (by omega)⟩, val_natL ha, val_natL hb]
theorem mul_pw {x y : Int} {m n : Nat} (hx : 0 ≤ x) (hy : 0 ≤ y) (hx' : x < pw m) (hy' : y < pw n) : 0 ≤ x * y ∧ x * y < pw (m + n) := by
  refine ⟨Int.mul_nonneg hx hy, ?_⟩
  rw [pw_add]
  have h1 := Int.mul_le_mul (show x ≤ pw m - 1 by omega) (show y ≤ pw n by omega) hy (show 0 ≤ pw m - 1 by omega)
  have h2 : (pw m - 1) * pw n = pw m * pw n - pw n := by rw [Int.sub_mul, Int.one_mul]
  have := pw_pos n
  omega
theorem add_pw {x y : Int} {n : Nat} (hx' : x < pw n) (hy' : y < pw n) : x + y < pw (n + 1) := by
  rw [pw_succ]; have := pw_pos n; omega
theorem len_nat {x : Int} {n : Nat} (h : 0 ≤ x) (h' : x < pw n) : (natL x).length ≤ n := (natL_len h n).2 h'

theorem LimbRules : psephoslaw01_LimbRules.Pure := by
  intro a b c _ hal hwa _ hbl hwb _ hcl hwc
  have ha : Lm a := fun x hx => bu32 (hwa x hx)
  have hb : Lm b := fun x hx => bu32 (hwb x hx)
  have hc : Lm c := fun x hx => bu32 (hwc x hx)
  obtain ⟨K, hK⟩ := awake_ev
  obtain ⟨k, hk⟩ : ∃ k, k = K + 200000 := ⟨_, rfl⟩
  refine ⟨k + 1, ?_⟩
  have hj : ∀ x : Bool, x = true → psephoslaw01_LimbRules.j0 (k + 1) a b c x = some true := by
    intro x hx; subst hx
    simp only [psephoslaw01_LimbRules.j0, if_true]; rw [hK _ (by omega)]; rfl
  unfold psephoslaw01_LimbRules.f
  rw [hK _ (by omega)]; simp only [Option.bind_some, if_true]
  rw [few_all (by simp) (by simp; omega)]; simp only [Option.bind_some]
  by_cases hf : (([a, b, c] : List (List Int)).all (fun l => decide (l.length ≤ 410))) = true
  · rw [if_pos hf]
    by_cases ha6 : a.length ≤ 60
    · rw [if_neg (by omega)]
      by_cases hb6 : b.length ≤ 60
      · rw [if_neg (by omega)]
        by_cases hc6 : c.length ≤ 60
        · rw [if_neg (by omega), Formed_ev (by omega), Formed_ev (by omega), Formed_ev (by omega)]; simp only [Option.bind_some]
          cases hfa : fmB a with
          | false => rw [if_neg (by simp)]; exact hj _ rfl
          | true =>
            rw [if_pos rfl]
            cases hfb : fmB b with
            | false => rw [if_neg (by simp)]; exact hj _ rfl
            | true =>
              rw [if_pos rfl]
              cases hfc : fmB c with
              | false => exact hj _ rfl
              | true =>
                have fa := ((fmB_iff ha).1 hfa).2; have fb := ((fmB_iff hb).1 hfb).2; have fc := ((fmB_iff hc).1 hfc).2
                have a0 := val_nonneg ha; have b0 := val_nonneg hb; have c0 := val_nonneg hc
                have a1 := (fa.len_le 60).1 ha6; have b1 := (fb.len_le 60).1 hb6; have c1 := (fc.len_le 60).1 hc6
                have ea : a = natL (val a) := fa.natL
                have s1 := add_pw a1 b1
                have m1 := mul_pw (show 0 ≤ val a + val b by omega) c0 s1 c1
                have m2 := mul_pw a0 c0 a1 c1
                have m3 := mul_pw c0 b0 c1 b1
                have s2 := add_pw m2.2 m3.2
                have l1 := len_nat (show 0 ≤ val a + val b by omega) s1
                have l2 := len_nat m1.1 m1.2
                have l3 := len_nat m2.1 m2.2
                have l4 := len_nat m3.1 m3.2
                have hx : addS a b = (natL (val a + val b), 0) := by unfold addS; rw [if_pos ⟨hfa, hfb⟩, fitN_small (by omega) s1 (by omega)]
                have hy : addS b a = (natL (val a + val b), 0) := by unfold addS; rw [if_pos ⟨hfb, hfa⟩, Int.add_comm, fitN_small (by omega) s1 (by omega)]
                have fx : fmB (natL (val a + val b)) = true := fmB_natL (by omega)
                have vx : val (natL (val a + val b)) = val a + val b := val_natL (by omega)
                have hp : mulS (natL (val a + val b)) c = (natL ((val a + val b) * val c), 0) := by unfold mulS; rw [if_pos ⟨fx, hfc⟩, vx, fitN_small m1.1 m1.2 (by omega)]
                have hq : mulS a c = (natL (val a * val c), 0) := by unfold mulS; rw [if_pos ⟨hfa, hfc⟩, fitN_small m2.1 m2.2 (by omega)]
                have hr : mulS c b = (natL (val c * val b), 0) := by unfold mulS; rw [if_pos ⟨hfc, hfb⟩, fitN_small m3.1 m3.2 (by omega)]
                have hs : addS (natL (val a * val c)) (natL (val c * val b)) = (natL (val a * val c + val c * val b), 0) := by
                  unfold addS; rw [if_pos ⟨fmB_natL (by omega), fmB_natL (by omega)⟩, val_natL m2.1, val_natL m3.1, fitN_small (by omega) s2 (by omega)]
                have hd : subS (natL (val a + val b)) b = (natL (val a), 0) := by
                  unfold subS; rw [if_pos ⟨fx, hfb⟩, vx, if_neg (by omega), show val a + val b - val b = val a by omega]
                have dist : (val a + val b) * val c = val a * val c + val c * val b := by grind
                have k1 : ∀ x y : List Int, x.length ≤ 130 → y.length ≤ 130 → (x.length + 1) * (y.length + 2) + x.length + y.length + 10 < k := by
                  intro x y h1 h2
                  have := Nat.mul_le_mul (show x.length + 1 ≤ 131 by omega) (show y.length + 2 ≤ 132 by omega)
                  omega
                have z1 := (natL_fm (val a + val b)).1; have z2 := (natL_fm (val a * val c)).1; have z3 := (natL_fm (val c * val b)).1
                simp only [psephoslaw01_LimbRules.j0]
                rw [if_neg (by simp), add_ev ha hb (by omega) (by omega) (by omega), hx]; simp only [Option.bind_some]
                rw [add_ev hb ha (by omega) (by omega) (by omega), hy]; simp only [Option.bind_some]
                rw [mul_ev z1 hc (by omega) (by omega) (k1 _ _ (by omega) (by omega)), hp]; simp only [Option.bind_some]
                rw [mul_ev ha hc (by omega) (by omega) (k1 _ _ (by omega) (by omega)), hq]; simp only [Option.bind_some]
                rw [mul_ev hc hb (by omega) (by omega) (k1 _ _ (by omega) (by omega)), hr]; simp only [Option.bind_some]
                rw [add_ev z2 z3 (by omega) (by omega) (by omega), hs]; simp only [Option.bind_some]
                rw [sub_ev z1 hb (by omega) (by omega) (by omega), hd]; simp only [Option.bind_some]
                have l5 := len_nat (show 0 ≤ val a * val c + val c * val b by omega) s2
                have c2 := cmpF_nat (n := 130) (show 0 ≤ (val a + val b) * val c from m1.1) (show 0 ≤ val a * val c + val c * val b by omega) (by have := pw_le (show 60 + 1 + 60 ≤ 130 by omega); omega) (by have := pw_le (show 60 + 60 + 1 ≤ 130 by omega); omega) (by omega)
                have c1' := cmpF_nat (n := 61) (show 0 ≤ val a + val b by omega) (show 0 ≤ val a + val b by omega) s1 s1 (by omega)
                have c3 : cmpF (natL (val a)) a = cmpS (val a) (val a) := by
                  conv => lhs; rw [ea]
                  rw [val_natL a0]
                  exact cmpF_nat (n := 60) a0 a0 a1 a1 (by omega)
                have c4 : cmpF (natL (val a + val b)) a = cmpS (val a + val b) (val a) := by
                  conv => lhs; rw [ea]
                  rw [val_natL a0]
                  exact cmpF_nat (n := 61) (by omega) a0 s1 (by have := pw_le (show 60 ≤ 61 by omega); omega) (by omega)
                rw [Cmp_ev z1 z1 (by omega) (by omega) (by omega), c1']; simp only [Option.bind_some]
                rw [if_pos (by simp [cmpS]), Cmp_ev (natL_fm _).1 (natL_fm _).1 (by omega) (by omega) (by omega), c2]; simp only [Option.bind_some]
                rw [if_pos (by rw [dist]; simp [cmpS]), Formed_ev (by omega), fmB_natL (by omega)]; simp only [Option.bind_some, if_true]
                rw [Cmp_ev (natL_fm _).1 ha (by have := len_nat a0 a1; omega) (by omega) (by have := len_nat a0 a1; omega), c3]; simp only [Option.bind_some]
                rw [if_pos (by simp [cmpS]), Cmp_ev z1 ha (by omega) (by omega) (by omega), c4]; simp only [Option.bind_some]
                have : cmpS (val a + val b) (val a) ≥ 0 := by
                  unfold cmpS; rw [if_neg (by omega)]; split <;> omega
                simp [this]
        · rw [if_pos (by omega)]; exact hj _ rfl
      · rw [if_pos (by omega)]; exact hj _ rfl
    · rw [if_pos (by omega)]; exact hj _ rfl
  · rw [if_neg hf]; exact hj _ rfl

end Go.Proofs.Ytapmhmkekkhhpaa.Pure
