/- Any part of any amount, and its square, are the reference's. No conditions. -/
import Derived.Test.YtapmhmkekkhhpaaLMoneyParts
namespace Go.Proofs.Ytapmhmkekkhhpaa.Pure
open Go.RowKit Go.Proofs.Ytapmhmkekkhhpaa.PMoneyParts Go.Proofs.YtapmhmkekkhhpaaW.PrintWords Go.Proofs.YtapmhmkekkhhpaaW.PrintLast Go.Proofs.YtapmhmkekkhhpaaW.PrintMore Go.Proofs.Ytapmhmkekkhhpaa.LMoneyParts
set_option linter.unusedSimpArgs false
set_option linter.unusedVariables false

theorem and_low {x : Int} (h : U64 x) : Go.bits .and .u64 x 4294967295 = x % 4294967296 := by
  obtain ⟨a, rfl⟩ := Int.eq_ofNat_of_zero_le h.1
  have h2 := h.2
  have e := Go.u64_and_nat a 4294967295 (by omega) (by omega)
  rw [show ((4294967295 : Int)) = ((4294967295 : Nat) : Int) from rfl, e, show (4294967295 : Nat) = 2 ^ 32 - 1 from rfl, Nat.and_two_pow_sub_one_eq_mod]
  omega
theorem wu' {n : Int} (h0 : 0 ≤ n) (h1 : n ≤ 18446744073709551615) : IntKind.u64.wrap n = n := wu h0 h1
theorem rd_natL0 {v : Int} (h : 0 ≤ v) : rd (natL v) 0 = v % 4294967296 := by
  by_cases h0 : v = 0
  · subst h0; rw [natL_zero]; rfl
  · rw [natL_cons (by omega), rd_cons_zero]
theorem rd_natL_succ {v : Int} (h : 0 ≤ v) (i : Nat) : rd (natL v) ((i + 1 : Nat) : Int) = rd (natL (v / 4294967296)) (i : Int) := by
  by_cases h0 : v = 0
  · subst h0; rw [show (0 : Int) / 4294967296 = 0 by decide, natL_zero, rd_past (by simp only [List.length_nil]; omega), rd_past (by simp only [List.length_nil]; omega)]
  · rw [natL_cons (by omega)]
    unfold Go.Proofs.YtapmhmkekkhhpaaW.PrintWords.rd
    rw [Int.toNat_natCast, Int.toNat_natCast]; rfl
theorem limbs4 {v : Int} (h : 0 ≤ v) : rd (natL v) 0 = v % 4294967296 ∧ rd (natL v) 1 = v / 4294967296 % 4294967296 ∧ rd (natL v) 2 = v / 18446744073709551616 % 4294967296 ∧ rd (natL v) 3 = v / 79228162514264337593543950336 % 4294967296 := by
  have e1 := rd_natL_succ h 0
  have e2 := rd_natL_succ h 1
  have e3 := rd_natL_succ h 2
  have d1 : 0 ≤ v / 4294967296 := by omega
  have e4 := rd_natL_succ d1 0
  have e5 := rd_natL_succ d1 1
  have d2 : 0 ≤ v / 4294967296 / 4294967296 := by omega
  have e6 := rd_natL_succ d2 0
  have d3 : 0 ≤ v / 4294967296 / 4294967296 / 4294967296 := by omega
  refine ⟨rd_natL0 h, ?_, ?_, ?_⟩
  · exact e1.trans (rd_natL0 d1)
  · exact e2.trans (e4.trans ((rd_natL0 d2).trans (by omega)))
  · exact e3.trans (e5.trans (e6.trans ((rd_natL0 d3).trans (by omega))))
theorem sq_eq (hh l : Int) : (hh * 4294967296 + l) * (hh * 4294967296 + l) = hh * hh * 18446744073709551616 + l * hh * 8589934592 + l * l := by grind
/-- The square's upper and lower half. -/
def sqS (a : Int) : Int × Int := (a * a / 18446744073709551616, a * a % 18446744073709551616)
theorem sq_parts {hh l : Int} (h0 : 0 ≤ hh) (h1 : hh ≤ 4294967295) (l0 : 0 ≤ l) (l1 : l ≤ 4294967295) : 0 ≤ hh * hh ∧ hh * hh ≤ 18446744065119617025 ∧ 0 ≤ l * hh ∧ l * hh ≤ 18446744065119617025 ∧ 0 ≤ l * l ∧ l * l ≤ 18446744065119617025 := by
  have a := Int.mul_nonneg h0 h0
  have b := Int.mul_nonneg l0 h0
  have c := Int.mul_nonneg l0 l0
  have a1 := Int.mul_le_mul h1 h1 h0 (by omega)
  have b1 := Int.mul_le_mul l1 h1 h0 (by omega)
  have c1 := Int.mul_le_mul l1 l1 l0 (by omega)
  exact ⟨a, by omega, b, by omega, c, by omega⟩
theorem sq_fin {H M B V : Int} (e : V = H * 18446744073709551616 + M * 8589934592 + B) (H0 : 0 ≤ H) (H1 : H ≤ 18446744065119617025) (M0 : 0 ≤ M) (M1 : M ≤ 18446744065119617025) (B0 : 0 ≤ B) (B1 : B ≤ 18446744065119617025) :
    (if (B + M * 8589934592 % 18446744073709551616) % 18446744073709551616 < B then (some ((H + M / 2147483648) % 18446744073709551616 + 1, (B + M * 8589934592 % 18446744073709551616) % 18446744073709551616) : Option (Int × Int)) else some ((H + M / 2147483648) % 18446744073709551616, (B + M * 8589934592 % 18446744073709551616) % 18446744073709551616)) = some (V / 18446744073709551616, V % 18446744073709551616) := by
  have hm : M * 8589934592 % 18446744073709551616 = M % 2147483648 * 8589934592 := by omega
  rw [hm]
  split <;> (congr 1; refine Prod.ext ?_ ?_ <;> dsimp only <;> omega)
theorem square_ev {a : Int} (h : U64 a) : money_Square.f a = some (sqS a) := by
  have h0 := h.1; have h1 := h.2
  unfold money_Square.f sqS
  rw [and_low h]
  obtain ⟨hh, hhe⟩ : ∃ x, x = a / 4294967296 := ⟨_, rfl⟩
  obtain ⟨l, hle⟩ : ∃ x, x = a % 4294967296 := ⟨_, rfl⟩
  have ea : a = hh * 4294967296 + l := by omega
  have b0 : 0 ≤ hh ∧ hh ≤ 4294967295 := by omega
  have b1 : 0 ≤ l ∧ l ≤ 4294967295 := by omega
  rw [← hhe, ← hle]
  obtain ⟨p1, p2, p3, p4, p5, p6⟩ := sq_parts b0.1 b0.2 b1.1 b1.2
  have e := sq_eq hh l
  rw [← ea] at e
  clear hhe hle ea
  generalize hh * hh = H at p1 p2 e ⊢
  generalize l * hh = M at p3 p4 e ⊢
  generalize l * l = B at p5 p6 e ⊢
  generalize a * a = V at e ⊢
  rw [wu' p1 (by omega), wu' p3 (by omega), wu' p5 (by omega)]
  have f := sq_fin e p1 p2 p3 p4 p5 p6
  have hT : 0 ≤ (H + M / 2147483648) ∧ (H + M / 2147483648) ≤ 18446744073709551613 := by omega
  rw [wu64, wu64, wu64, wu64]
  rw [← f]
  have e2 : ((H + M / 2147483648) % 18446744073709551616 + 1) % 18446744073709551616 = (H + M / 2147483648) % 18446744073709551616 + 1 := by omega
  rw [e2]
theorem rsquare_ev {a : Int} (h : U64 a) {k : Nat} (hk : 1000 < k) : psephosref03_Square.f k a = some (sqS a) := by
  have h0 := h.1; have h1 := h.2
  have ea : ofN a = natL a := ofN_natL h0 h1
  have la := natL_u64 h
  obtain ⟨p1, p2⟩ := prod_len h h
  have lp := natL_len_le p1 p2
  have hk2 : ((natL a).length + 1) * ((natL a).length + 2) ≤ 12 := Nat.mul_le_mul (show (natL a).length + 1 ≤ 3 by omega) (show (natL a).length + 2 ≤ 4 by omega)
  unfold psephosref03_Square.f
  rw [rof_ev a (by omega), Option.bind_some, Option.bind_some, ea, rMul_ev (natL_fm a).1 (natL_fm a).1 (by omega) (by omega) (by omega), mulS_u64 h h, Option.bind_some]
  dsimp only
  rw [if_pos lp]
  obtain ⟨q0, q1, q2, q3⟩ := limbs4 p1
  rw [q0, q1, q2, q3]
  unfold sqS
  obtain ⟨v, hv⟩ : ∃ v, v = a * a := ⟨_, rfl⟩
  have hp : pw 4 = 340282366920938463463374607431768211456 := by decide +kernel
  rw [← hv] at p1 p2 ⊢
  rw [hp] at p2
  clear hp q0 q1 q2 q3 lp la ea hv
  have w0 := wu' (n := v % 4294967296) (by omega) (by omega)
  have w1 := wu' (n := v / 4294967296 % 4294967296) (by omega) (by omega)
  have w2 := wu' (n := v / 18446744073709551616 % 4294967296) (by omega) (by omega)
  have w3 := wu' (n := v / 79228162514264337593543950336 % 4294967296) (by omega) (by omega)
  have w4 := wu' (n := v / 4294967296 % 4294967296 * 4294967296) (by omega) (by omega)
  have w5 := wu' (n := v / 79228162514264337593543950336 % 4294967296 * 4294967296) (by omega) (by omega)
  rw [w3, w2, w1, w0, w4, w5]
  clear w0 w1 w2 w3 w4 w5
  rw [or_low (by omega) (by omega) (by omega) (by omega), or_low (by omega) (by omega) (by omega) (by omega)]
  congr 1
  refine Prod.ext ?_ ?_ <;> dsimp only <;> omega
theorem MoneyParts : psephoslaw06_MoneyParts.Pure := by
  intro x y z hx hy hz
  have hx' : U64 x := bu64 hx
  have hy' : U64 y := bu64 hy
  have hz' : U64 z := bu64 hz
  have hA : psephoslaw06_awake.f = some true := by
    unfold psephoslaw06_awake.f money_Add.f; simp [wu64]
  refine ⟨70000, ?_⟩
  unfold psephoslaw06_MoneyParts.f
  rw [hA, Option.bind_some, if_pos rfl, part_ev hx' hy' hz' (by omega), Option.bind_some, rpart_ev hx' hy' hz' (by omega), Option.bind_some, square_ev hx', Option.bind_some, rsquare_ev hx' (by omega), Option.bind_some, if_pos rfl, if_pos rfl, if_pos rfl]
  simp

end Go.Proofs.Ytapmhmkekkhhpaa.Pure
