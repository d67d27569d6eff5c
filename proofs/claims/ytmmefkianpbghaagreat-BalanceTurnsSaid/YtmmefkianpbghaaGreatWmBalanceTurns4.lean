/- Walks and their mathematics, merged. No conditions beyond those written. -/
import Derived.Test.YtmmefkianpbghaaGreatWmBalanceTurns3
/- What layer 2 answers, of formed fractions. -/
namespace Go.Proofs.Wk
set_option linter.unusedVariables false
set_option linter.unusedSimpArgs false

theorem mulS_bd {a b : List Int} (ha : fmB a = true) (hb : fmB b = true) : mulS a b = bdS (natL (val a * val b)) := by
  unfold mulS; rw [if_pos ⟨ha, hb⟩]; rfl
theorem addS_bd {a b : List Int} (ha : fmB a = true) (hb : fmB b = true) : addS a b = bdS (natL (val a + val b)) := by
  unfold addS; rw [if_pos ⟨ha, hb⟩]; rfl
theorem bd_ok {l : List Int} (h : l.length ≤ 400) : bdS l = (l, 0) := if_pos h
theorem bd_no {l : List Int} (h : ¬ l.length ≤ 400) : bdS l = ([], 4) := if_neg h
theorem makeS_natL {p q : Int} (hq : 0 < q) (h1 : (natL p).length ≤ 400) (h2 : (natL q).length ≤ 400) : makeS (natL p) (natL q) = ((lowS (natL p) (natL q)).1, (lowS (natL p) (natL q)).2, 0) := by
  unfold makeS
  rw [if_pos ⟨fmB_natL h1, fmB_natL h2⟩, if_neg (fun e => by have := (natL_len_zero (show 0 ≤ q by omega)).1 e; omega)]
theorem fm_pos {b : List Int} (hb : Lm b) (h : fmB b = true) (h0 : 0 < b.length) : 0 < val b := val_pos_of ((fmB_iff hb).1 h).2 (by omega)
section
variable {a b c d : List Int} (ha : Lm a) (hb : Lm b) (hc : Lm c) (hd : Lm d) (hf : formedR a b = true) (hg : formedR c d = true)
include ha hb hc hd hf hg
theorem rmulS_eq : rmulS a b c d = if (natL (val a * val c)).length ≤ 400 ∧ (natL (val b * val d)).length ≤ 400 then ((lowS (natL (val a * val c)) (natL (val b * val d))).1, (lowS (natL (val a * val c)) (natL (val b * val d))).2, 0) else ([], [], 4) := by
  obtain ⟨f1, f2, f3, _⟩ := formedR_spec ha hb hf
  obtain ⟨g1, g2, g3, _⟩ := formedR_spec hc hd hg
  have hq := Int.mul_pos (fm_pos hb f2 f3) (fm_pos hd g2 g3)
  unfold rmulS
  rw [if_pos (by simp [hf, hg]), mulS_bd f1 g1, mulS_bd f2 g2]
  by_cases h1 : (natL (val a * val c)).length ≤ 400 <;> by_cases h2 : (natL (val b * val d)).length ≤ 400
  · rw [bd_ok h1, bd_ok h2]; show endS 0 0 (natL _) (natL _) = _; rw [if_pos ⟨h1, h2⟩]; exact makeS_natL hq h1 h2
  · rw [bd_ok h1, bd_no h2]; show endS 4 0 (natL _) [] = _; rw [if_neg (fun h => h2 h.2)]; rfl
  · rw [bd_no h1, bd_ok h2]; show endS 4 0 [] (natL _) = _; rw [if_neg (fun h => h1 h.1)]; rfl
  · rw [bd_no h1, bd_no h2]; show endS 4 0 [] [] = _; rw [if_neg (fun h => h1 h.1)]; rfl
theorem rcmpS_eq : rcmpS a b c d = if (natL (val a * val d)).length ≤ 400 ∧ (natL (val c * val b)).length ≤ 400 then cmpS (val a * val d) (val c * val b) else 0 := by
  obtain ⟨f1, f2, f3, _⟩ := formedR_spec ha hb hf
  obtain ⟨g1, g2, g3, _⟩ := formedR_spec hc hd hg
  have p1 := Int.mul_nonneg (val_nonneg ha) (val_nonneg hd)
  have p2 := Int.mul_nonneg (val_nonneg hc) (val_nonneg hb)
  unfold rcmpS
  rw [if_pos (by simp [hf, hg]), mulS_bd f1 g2, mulS_bd g1 f2]
  by_cases h1 : (natL (val a * val d)).length ≤ 400 <;> by_cases h2 : (natL (val c * val b)).length ≤ 400
  · rw [bd_ok h1, bd_ok h2]
    show cmpF (natL _) (natL _) = _
    rw [if_pos ⟨h1, h2⟩]
    unfold cmpF
    rw [if_pos ⟨fmB_natL h1, fmB_natL h2⟩, val_natL p1, val_natL p2]
  · rw [bd_ok h1, bd_no h2]; show (0 : Int) = _; rw [if_neg (fun h => h2 h.2)]
  · rw [bd_no h1, bd_ok h2]; show (0 : Int) = _; rw [if_neg (fun h => h1 h.1)]
  · rw [bd_no h1, bd_no h2]; show (0 : Int) = _; rw [if_neg (fun h => h1 h.1)]
theorem raddS_eq : joinS addS a b c d = if (natL (val a * val d)).length ≤ 400 ∧ (natL (val c * val b)).length ≤ 400 ∧ (natL (val b * val d)).length ≤ 400 ∧ (natL (val a * val d + val c * val b)).length ≤ 400 then ((lowS (natL (val a * val d + val c * val b)) (natL (val b * val d))).1, (lowS (natL (val a * val d + val c * val b)) (natL (val b * val d))).2, 0) else ([], [], 4) := by
  obtain ⟨f1, f2, f3, _⟩ := formedR_spec ha hb hf
  obtain ⟨g1, g2, g3, _⟩ := formedR_spec hc hd hg
  have hq := Int.mul_pos (fm_pos hb f2 f3) (fm_pos hd g2 g3)
  have p1 := Int.mul_nonneg (val_nonneg ha) (val_nonneg hd)
  have p2 := Int.mul_nonneg (val_nonneg hc) (val_nonneg hb)
  unfold joinS
  rw [if_pos (by simp [hf, hg]), mulS_bd f1 g2, mulS_bd g1 f2, mulS_bd f2 g2]
  by_cases h1 : (natL (val a * val d)).length ≤ 400 <;> by_cases h2 : (natL (val c * val b)).length ≤ 400 <;> by_cases h3 : (natL (val b * val d)).length ≤ 400
  · rw [bd_ok h1, bd_ok h2, bd_ok h3]
    show endS 0 (addS (natL _) (natL _)).2 (addS (natL _) (natL _)).1 (natL _) = _
    rw [addS_bd (fmB_natL h1) (fmB_natL h2), val_natL p1, val_natL p2]
    by_cases h4 : (natL (val a * val d + val c * val b)).length ≤ 400
    · rw [bd_ok h4, if_pos ⟨h1, h2, h3, h4⟩]; exact makeS_natL hq h4 h3
    · rw [bd_no h4, if_neg (fun h => h4 h.2.2.2)]; rfl
  all_goals first
    | (rw [bd_ok h1, bd_ok h2, bd_no h3, if_neg (fun h => h3 h.2.2.1)]; rfl)
    | (rw [bd_ok h1, bd_no h2, bd_ok h3, if_neg (fun h => h2 h.2.1)]; rfl)
    | (rw [bd_ok h1, bd_no h2, bd_no h3, if_neg (fun h => h2 h.2.1)]; rfl)
    | (rw [bd_no h1, bd_ok h2, bd_ok h3, if_neg (fun h => h1 h.1)]; rfl)
    | (rw [bd_no h1, bd_ok h2, bd_no h3, if_neg (fun h => h1 h.1)]; rfl)
    | (rw [bd_no h1, bd_no h2, bd_ok h3, if_neg (fun h => h1 h.1)]; rfl)
    | (rw [bd_no h1, bd_no h2, bd_no h3, if_neg (fun h => h1 h.1)]; rfl)
theorem rsubS_eq : joinS subS a b c d = if (natL (val a * val d)).length ≤ 400 ∧ (natL (val c * val b)).length ≤ 400 ∧ (natL (val b * val d)).length ≤ 400 then (if val a * val d < val c * val b then ([], [], 3) else ((lowS (natL (val a * val d - val c * val b)) (natL (val b * val d))).1, (lowS (natL (val a * val d - val c * val b)) (natL (val b * val d))).2, 0)) else ([], [], 4) := by
  obtain ⟨f1, f2, f3, _⟩ := formedR_spec ha hb hf
  obtain ⟨g1, g2, g3, _⟩ := formedR_spec hc hd hg
  have hq := Int.mul_pos (fm_pos hb f2 f3) (fm_pos hd g2 g3)
  have p1 := Int.mul_nonneg (val_nonneg ha) (val_nonneg hd)
  have p2 := Int.mul_nonneg (val_nonneg hc) (val_nonneg hb)
  unfold joinS
  rw [if_pos (by simp [hf, hg]), mulS_bd f1 g2, mulS_bd g1 f2, mulS_bd f2 g2]
  by_cases h1 : (natL (val a * val d)).length ≤ 400 <;> by_cases h2 : (natL (val c * val b)).length ≤ 400 <;> by_cases h3 : (natL (val b * val d)).length ≤ 400
  · rw [bd_ok h1, bd_ok h2, bd_ok h3, if_pos ⟨h1, h2, h3⟩]
    show endS 0 (subS (natL _) (natL _)).2 (subS (natL _) (natL _)).1 (natL _) = _
    unfold subS
    rw [if_pos ⟨fmB_natL h1, fmB_natL h2⟩, val_natL p1, val_natL p2]
    by_cases h4 : val a * val d < val c * val b
    · rw [if_pos h4, if_pos h4]; rfl
    · rw [if_neg h4, if_neg h4]
      have l1 := val_lt_pw (natL_fm (val a * val d)).1
      rw [val_natL p1] at l1
      have l2 := natL_len_le (n := (natL (val a * val d)).length) (show 0 ≤ val a * val d - val c * val b by omega) (by omega)
      exact makeS_natL hq (by omega) h3
  all_goals first
    | (rw [bd_ok h1, bd_ok h2, bd_no h3, if_neg (fun h => h3 h.2.2)]; rfl)
    | (rw [bd_ok h1, bd_no h2, bd_ok h3, if_neg (fun h => h2 h.2.1)]; rfl)
    | (rw [bd_ok h1, bd_no h2, bd_no h3, if_neg (fun h => h2 h.2.1)]; rfl)
    | (rw [bd_no h1, bd_ok h2, bd_ok h3, if_neg (fun h => h1 h.1)]; rfl)
    | (rw [bd_no h1, bd_ok h2, bd_no h3, if_neg (fun h => h1 h.1)]; rfl)
    | (rw [bd_no h1, bd_no h2, bd_ok h3, if_neg (fun h => h1 h.1)]; rfl)
    | (rw [bd_no h1, bd_no h2, bd_no h3, if_neg (fun h => h1 h.1)]; rfl)
end
end Go.Proofs.Wk
/- RatioRules: what layer 2 answers, of fractions as pairs of numbers. -/
namespace Go.Proofs.Wk
set_option linter.unusedVariables false
set_option linter.unusedSimpArgs false
def lw (p q : Int) : List Int × List Int := (natL (p / gcdI p q), natL (q / gcdI p q))
theorem lowS_natL {p q : Int} (hp : 0 ≤ p) (hq : 0 ≤ q) : lowS (natL p) (natL q) = lw p q := by
  unfold lowS lw; rw [val_natL hp, val_natL hq]
theorem of_lw {n d : Int} (h : 0 ≤ n) (h' : n ≤ 18446744073709551615) (h0 : 0 < d) (h1 : d ≤ 18446744073709551615) : makeS (ofN n) (ofN d) = ((lw n d).1, (lw n d).2, 0) := by
  rw [makeS_of (by omega) h1, if_neg (by omega)]
  unfold lowS
  rw [ofN_val h h', ofN_val (by omega) h1]; rfl
section
variable {p q r s : Int} {n : Nat} (hp : 0 ≤ p) (hq : 0 < q) (hr : 0 ≤ r) (hs : 0 < s) (lp : p < pw n) (lq : q < pw n) (lr : r < pw n) (ls : s < pw n) (hn : n + n + 1 ≤ 400)
include hp hq hr hs lp lq lr ls hn
end
end Go.Proofs.Wk
/- Fractions as rational numbers. -/
namespace Go.Proofs.Wk
set_option linter.unusedVariables false
set_option linter.unusedSimpArgs false
def qn (x : Rat) : List Int := natL x.num
def qd (x : Rat) : List Int := natL (x.den : Int)
/-- The number that two naturals say. -/
def rv (a b : List Int) : Rat := Rat.divInt (val a) (val b)
/-- A number that is not negative, with a numerator and a denominator of at most n limbs. -/
structure Sz (m : Nat) (x : Rat) : Prop where
  p : 0 ≤ x
  n : x.num < pw m
  d : (x.den : Int) < pw m
theorem gcdI_gcd {p q : Int} (hp : 0 ≤ p) (hq : 0 ≤ q) : gcdI p q = ((Int.gcd q p : Nat) : Int) := by
  unfold gcdI Int.gcd
  rw [Nat.gcd_comm, show p.toNat = p.natAbs by omega, show q.toNat = q.natAbs by omega]
theorem lw_q {p q : Int} (hp : 0 ≤ p) (hq : 0 < q) : lw p q = (qn (Rat.divInt p q), qd (Rat.divInt p q)) := by
  unfold lw qn qd
  rw [Rat.num_divInt, Rat.den_divInt, if_neg (by omega), Int.sign_eq_one_of_pos hq, Int.one_mul, gcdI_gcd hp (by omega), Int.natCast_ediv]
  rw [show ((q.natAbs : Nat) : Int) = q by omega]
theorem num_pos {x : Rat} (h : 0 ≤ x) : 0 ≤ x.num := Rat.num_nonneg.2 h
theorem den_pos (x : Rat) : 0 < (x.den : Int) := by have := x.den_nz; omega
theorem val_qn {x : Rat} (h : 0 ≤ x) : val (qn x) = x.num := val_natL (num_pos h)
theorem val_qd (x : Rat) : val (qd x) = (x.den : Int) := val_natL (by have := den_pos x; omega)
theorem mul_lt_pw {a b : Int} {m n : Nat} (ha : 0 ≤ a) (h1 : a < pw m) (h2 : b < pw n) (hb : 0 ≤ b) : a * b < pw (m + n) := by
  rw [pw_add]
  have := pw_pos m
  have h3 : a * b ≤ a * pw n := Int.mul_le_mul_of_nonneg_left (by omega) ha
  have h4 : a * pw n < pw m * pw n := Int.mul_lt_mul_of_pos_right h1 (pw_pos n)
  omega
theorem add_lt_pw {a b : Int} {n : Nat} (h1 : a < pw n) (h2 : b < pw n) : a + b < pw (n + 1) := by
  rw [pw_add]; have : pw 1 = 4294967296 := rfl
  have := pw_pos n
  rw [‹pw 1 = 4294967296›]; omega
theorem Sz.mono {m n : Nat} {x : Rat} (h : Sz m x) (hn : m ≤ n) : Sz n x := ⟨h.p, by have := h.n; have := pw_le hn; omega, by have := h.d; have := pw_le hn; omega⟩
theorem Sz.ln {n : Nat} {x : Rat} (h : Sz n x) : (qn x).length ≤ n := natL_len_le (num_pos h.p) h.n
theorem Sz.ld {n : Nat} {x : Rat} (h : Sz n x) : (qd x).length ≤ n := natL_len_le (by have := den_pos x; omega) h.d
theorem qn_lm (x : Rat) : Lm (qn x) := (natL_fm _).1
theorem qd_lm (x : Rat) : Lm (qd x) := (natL_fm _).1
theorem qd_pos (x : Rat) : 0 < (qd x).length := by
  rcases Nat.eq_zero_or_pos (qd x).length with h | h
  · have := (natL_len_zero (show 0 ≤ (x.den : Int) by have := den_pos x; omega)).1 h; have := den_pos x; omega
  · exact h
theorem Sz.formed {n : Nat} {x : Rat} (h : Sz n x) (hn : n ≤ 400) : formedR (qn x) (qd x) = true := by
  unfold formedR
  have h1 := h.ln; have h2 := h.ld; have h3 := qd_pos x
  rw [show fmB (qn x) = true from fmB_natL (by show (qn x).length ≤ _; omega), show fmB (qd x) = true from fmB_natL (by show (qd x).length ≤ _; omega), val_qn h.p, val_qd, gcdI_gcd (num_pos h.p) (by have := den_pos x; omega)]
  have hr : Int.gcd (x.den : Int) x.num = 1 := by
    have := x.reduced
    unfold Int.gcd; rw [Nat.gcd_comm]; exact this
  rw [hr]; simp [h3]
/-- A fraction that is formed is that of a number. -/
theorem formed_q {a b : List Int} (ha : Lm a) (hb : Lm b) (h : formedR a b = true) : a = qn (rv a b) ∧ b = qd (rv a b) ∧ 0 ≤ rv a b ∧ (rv a b).num = val a ∧ ((rv a b).den : Int) = val b := by
  obtain ⟨f1, f2, f3, f4⟩ := formedR_spec ha hb h
  have hq := fm_pos hb f2 f3
  have hp := val_nonneg ha
  have e := lw_q hp hq
  unfold lw at e
  rw [f4, Int.ediv_one, Int.ediv_one] at e
  have e1 := congrArg Prod.fst e
  have e2 := congrArg Prod.snd e
  dsimp only at e1 e2
  have h0 : 0 ≤ rv a b := Rat.divInt_nonneg hp (by omega)
  refine ⟨by rw [(fmB_nat ha f1).1, ← (fmB_nat ha f1).1]; exact (fmB_nat ha f1).1.trans e1, (fmB_nat hb f2).1.trans e2, h0, ?_, ?_⟩
  · exact natL_inj (num_pos h0) hp (e1.symm)
  · exact natL_inj (by have := den_pos (rv a b); omega) (by omega) (e2.symm)
theorem formed_sz {a b : List Int} (ha : Lm a) (hb : Lm b) (h : formedR a b = true) {n : Nat} (h1 : a.length ≤ n) (h2 : b.length ≤ n) : Sz n (rv a b) := by
  obtain ⟨_, _, h3, h4, h5⟩ := formed_q ha hb h
  have l1 := val_lt_pw ha
  have l2 := val_lt_pw hb
  have := pw_le h1; have := pw_le h2
  exact ⟨h3, by omega, by omega⟩
theorem q_low {p q : Int} (hp : 0 ≤ p) (hq : 0 < q) : lowS (natL p) (natL q) = (qn (Rat.divInt p q), qd (Rat.divInt p q)) := by
  rw [lowS_natL hp (by omega), lw_q hp hq]
section
variable {x y : Rat} {m n : Nat} (hx : Sz m x) (hy : Sz n y)
include hx hy
theorem q_add (h : m + n < 400) : joinS addS (qn x) (qd x) (qn y) (qd y) = (qn (x + y), qd (x + y), 0) := by
  have p1 := num_pos hx.p; have p2 := num_pos hy.p; have d1 := den_pos x; have d2 := den_pos y
  have b1 := mul_lt_pw p1 hx.n hy.d (by omega)
  have b2 := mul_lt_pw p2 hy.n hx.d (by omega)
  have b3 := mul_lt_pw (show 0 ≤ (x.den : Int) by omega) hx.d hy.d (by omega)
  rw [Nat.add_comm n m] at b2
  have b4 := add_lt_pw b1 b2
  have q1 := Int.mul_nonneg p1 (show 0 ≤ (y.den : Int) by omega)
  have q2 := Int.mul_nonneg p2 (show 0 ≤ (x.den : Int) by omega)
  have q3 := Int.mul_pos d1 d2
  rw [raddS_eq (qn_lm x) (qd_lm x) (qn_lm y) (qd_lm y) (hx.formed (by omega)) (hy.formed (by omega)), val_qn hx.p, val_qn hy.p, val_qd, val_qd]
  rw [if_pos ⟨by have := natL_len_le q1 b1; omega, by have := natL_len_le q2 b2; omega, by have := natL_len_le (by omega) b3; omega, by have := natL_len_le (by omega) b4; omega⟩, q_low (by omega) q3]
  rw [show x + y = Rat.divInt (x.num * y.den + y.num * x.den) ((x.den : Int) * (y.den : Int)) by rw [Rat.add_def', ← Int.natCast_mul, Rat.divInt_ofNat]]
theorem q_sub (h : m + n ≤ 400) : joinS subS (qn x) (qd x) (qn y) (qd y) = if x < y then ([], [], 3) else (qn (x - y), qd (x - y), 0) := by
  have p1 := num_pos hx.p; have p2 := num_pos hy.p; have d1 := den_pos x; have d2 := den_pos y
  have b1 := mul_lt_pw p1 hx.n hy.d (by omega)
  have b2 := mul_lt_pw p2 hy.n hx.d (by omega)
  have b3 := mul_lt_pw (show 0 ≤ (x.den : Int) by omega) hx.d hy.d (by omega)
  rw [Nat.add_comm n m] at b2
  have q1 := Int.mul_nonneg p1 (show 0 ≤ (y.den : Int) by omega)
  have q2 := Int.mul_nonneg p2 (show 0 ≤ (x.den : Int) by omega)
  have q3 := Int.mul_pos d1 d2
  rw [rsubS_eq (qn_lm x) (qd_lm x) (qn_lm y) (qd_lm y) (hx.formed (by omega)) (hy.formed (by omega)), val_qn hx.p, val_qn hy.p, val_qd, val_qd]
  rw [if_pos ⟨by have := natL_len_le q1 b1; omega, by have := natL_len_le q2 b2; omega, by have := natL_len_le (by omega) b3; omega⟩]
  by_cases hlt : x < y
  · rw [if_pos hlt, if_pos ((Rat.lt_iff x y).1 hlt)]
  · have h5 : ¬ x.num * y.den < y.num * x.den := fun e => hlt ((Rat.lt_iff x y).2 e)
    rw [if_neg hlt, if_neg h5, q_low (by omega) q3]
    rw [show x - y = Rat.divInt (x.num * y.den - y.num * x.den) ((x.den : Int) * (y.den : Int)) by rw [Rat.sub_def', ← Int.natCast_mul, Rat.divInt_ofNat]]
def cmpQ (x y : Rat) : Int := if x < y then -1 else if x = y then 0 else 1
theorem q_cmp (h : m + n ≤ 400) : rcmpS (qn x) (qd x) (qn y) (qd y) = cmpQ x y := by
  have p1 := num_pos hx.p; have p2 := num_pos hy.p; have d1 := den_pos x; have d2 := den_pos y
  have b1 := mul_lt_pw p1 hx.n hy.d (by omega)
  have b2 := mul_lt_pw p2 hy.n hx.d (by omega)
  rw [Nat.add_comm n m] at b2
  have q1 := Int.mul_nonneg p1 (show 0 ≤ (y.den : Int) by omega)
  have q2 := Int.mul_nonneg p2 (show 0 ≤ (x.den : Int) by omega)
  rw [rcmpS_eq (qn_lm x) (qd_lm x) (qn_lm y) (qd_lm y) (hx.formed (by omega)) (hy.formed (by omega)), val_qn hx.p, val_qn hy.p, val_qd, val_qd]
  rw [if_pos ⟨by have := natL_len_le q1 b1; omega, by have := natL_len_le q2 b2; omega⟩]
  unfold cmpS cmpQ
  simp only [Rat.lt_iff, Rat.eq_iff_mul_eq_mul]
theorem q_mul (h : m + n ≤ 400) : rmulS (qn x) (qd x) (qn y) (qd y) = (qn (x * y), qd (x * y), 0) := by
  have p1 := num_pos hx.p; have p2 := num_pos hy.p; have d1 := den_pos x; have d2 := den_pos y
  have b1 := mul_lt_pw p1 hx.n hy.n p2
  have b3 := mul_lt_pw (show 0 ≤ (x.den : Int) by omega) hx.d hy.d (by omega)
  have q1 := Int.mul_nonneg p1 p2
  have q3 := Int.mul_pos d1 d2
  rw [rmulS_eq (qn_lm x) (qd_lm x) (qn_lm y) (qd_lm y) (hx.formed (by omega)) (hy.formed (by omega)), val_qn hx.p, val_qn hy.p, val_qd, val_qd]
  rw [if_pos ⟨by have := natL_len_le q1 b1; omega, by have := natL_len_le (by omega) b3; omega⟩, q_low (by omega) q3]
  rw [show x * y = Rat.divInt (x.num * y.num) ((x.den : Int) * (y.den : Int)) by rw [Rat.mul_def', ← Int.natCast_mul, Rat.divInt_ofNat]]
end
theorem sz_int {k : Int} {n : Nat} (h0 : 0 ≤ k) (h : k < pw n) (hn : 1 ≤ n) : Sz n (k : Rat) := ⟨Rat.intCast_nonneg.2 h0, by rw [Rat.num_intCast]; exact h, by rw [Rat.den_intCast]; have := pw_le hn; have : pw 1 = 4294967296 := rfl; omega⟩
theorem q_of {n d : Int} (h : 0 ≤ n) (h' : n ≤ 18446744073709551615) (h0 : 0 < d) (h1 : d ≤ 18446744073709551615) : makeS (ofN n) (ofN d) = (qn (Rat.divInt n d), qd (Rat.divInt n d), 0) := by
  rw [of_lw h h' h0 h1, lw_q h h0]
theorem q_of1 {n : Int} (h : 0 ≤ n) (h' : n ≤ 18446744073709551615) : makeS (ofN n) (ofN 1) = (qn (n : Rat), qd (n : Rat), 0) := by
  rw [q_of h h' (by omega) (by omega), show Rat.divInt n 1 = (n : Rat) by rw [Rat.divInt_eq_div]; grind]
theorem num_pos' {y : Rat} (h0 : 0 < y) : 0 < y.num := by
  have h1 := num_pos (Rat.le_of_lt h0)
  have h2 : y.num ≠ 0 := fun e => by rw [Rat.num_eq_zero] at e; subst e; exact Rat.lt_irrefl h0
  omega
theorem q_inv {y : Rat} (h0 : 0 < y) : qn y⁻¹ = qd y ∧ qd y⁻¹ = qn y := by
  have hn := num_pos' h0
  unfold qn qd
  rw [Rat.num_inv, Rat.den_inv, if_neg (by omega), Int.sign_eq_one_of_pos hn, Int.one_mul, show ((y.num.natAbs : Nat) : Int) = y.num by omega]
  exact ⟨rfl, rfl⟩
theorem sz_inv {y : Rat} {n : Nat} (hy : Sz n y) (h0 : 0 < y) : Sz n y⁻¹ := by
  have hn := num_pos' h0
  refine ⟨Rat.le_of_lt (Rat.inv_pos.2 h0), ?_, ?_⟩
  · rw [Rat.num_inv, Int.sign_eq_one_of_pos hn, Int.one_mul]; exact hy.d
  · rw [Rat.den_inv, if_neg (by omega), show ((y.num.natAbs : Nat) : Int) = y.num by omega]; exact hy.n
theorem q_div {x y : Rat} {m n : Nat} (hx : Sz m x) (hy : Sz n y) (h : m + n ≤ 400) (h0 : 0 < y) : rdivS (qn x) (qd x) (qn y) (qd y) = (qn (x / y), qd (x / y), 0) := by
  have hn := num_pos' h0
  have hl : (qn y).length ≠ 0 := fun e => by have := (natL_len_zero (num_pos hy.p)).1 e; omega
  have e := q_mul hx (sz_inv hy h0) h
  rw [(q_inv h0).1, (q_inv h0).2] at e
  unfold rdivS
  rw [if_pos (by rw [hx.formed (by omega), hy.formed (by omega)]; rfl), if_neg hl, e, Rat.div_def]
end Go.Proofs.Wk
/- Walks of the reference's fractions. -/
namespace Go.Proofs.Wk
open Go.RowKit
set_option maxRecDepth 100000
attribute [local irreducible] Pw OpG
set_option linter.unusedVariables false
set_option linter.unusedSimpArgs false
theorem lowest_ct (a b : List Int) (x y : Option Addr × Nat) (ha : Fm a) (hb : Fm b) (hb0 : b.length ≠ 0) (hl : a.length < 1048576) (hl' : b.length < 1048576) :
    Ct Tryz.prog 31 #[sl a x, sl b y] (fun W => S1 a x W ∧ S1 b y W) (fun z : Z2 => rt (lowS a b).1 (lowS a b).2 z) Tt (fun z => R2 (lowS a b).1 (lowS a b).2 z) := by
  refine Ct.start Tryz.func31 rfl rfl (slots_of rfl slots2) (fun D w0 => Pw.facts two2 ?_)
  have hbp := val_pos_of hb hb0
  have g0 := gcdI_pos (x := val a) hbp
  have gl := gcdI_le (x := val a) hbp
  have hg := rgcd_ct a b x y ha hb hl hl'
  unfold lowS
  obtain ⟨G, hG⟩ : ∃ g, g = gcdI (val a) (val b) := ⟨_, rfl⟩
  rw [← hG] at g0 gl hg ⊢
  have pb := val_lt_pw hb.1
  have lg := natL_len_le (n := b.length) (show 0 ≤ G by omega) (by omega)
  have hz : (natL G).length ≠ 0 := fun e => by have := (natL_len_zero (show 0 ≤ G by omega)).1 e; omega
  repeat (first | (with_reducible first | refine Pw.seq ?_ | refine Pw.region ?_ | refine Pw.nil ?_ | refine Pw.then_ ?_ | refine Pw.skip ?_ | refine Pw.block ?_ | refine Pw.exit ?_ | refine Pw.inX ?_ | refine Pw.inN ?_ | refine Pw.inR ?_ | refine Pw.thenX ?_ | refine Pw.thenR ?_ | refine Pw.ret ?_) | refine Pw.list (Pw.pure rfl rfl rfl ?_) | refine Pw.inY rfl ?_ | refine Pw.list (Pw.off rfl rfl ?_) | refine Pw.condT rfl ?_ | refine Pw.condF rfl ?_ | refine Pw.list (Pw.box rfl rfl rfl rfl (fun _ => freeHead ?_)) | refine Pw.list (Pw.alloc rfl rfl rfl rfl rfl (fun _ => ?_)) | refine Pw.list (Pw.build rfl rfl rfl rfl ?_) | refine Pw.list (Pw.ld rfl inferInstance rfl rfl rfl ?_) | refine Pw.list (Pw.sto rfl rfl inferInstance rfl rfl rfl rfl rfl inferInstance rfl ?_))
  refine Pw.list (Pw.call hg rfl rfl rfl (by kernel_rfl) rfl rfl (fun w h => ⟨(hv w h), (hv w h)⟩) ?_)
  intro zg _
  have d1 := rdivMod_ct a (natL G) x zg ha (natL_fm G) hz hl (by omega)
  have d2 := rdivMod_ct b (natL G) y zg hb (natL_fm G) hz hl' (by omega)
  rw [val_natL (by omega)] at d1 d2
  repeat (first | (with_reducible first | refine Pw.seq ?_ | refine Pw.region ?_ | refine Pw.nil ?_ | refine Pw.then_ ?_ | refine Pw.skip ?_ | refine Pw.block ?_ | refine Pw.exit ?_ | refine Pw.inX ?_ | refine Pw.inN ?_ | refine Pw.inR ?_ | refine Pw.thenX ?_ | refine Pw.thenR ?_ | refine Pw.ret ?_) | refine Pw.list (Pw.pure rfl rfl rfl ?_) | refine Pw.inY rfl ?_ | refine Pw.list (Pw.off rfl rfl ?_) | refine Pw.condT rfl ?_ | refine Pw.condF rfl ?_ | refine Pw.list (Pw.box rfl rfl rfl rfl (fun _ => freeHead ?_)) | refine Pw.list (Pw.alloc rfl rfl rfl rfl rfl (fun _ => ?_)) | refine Pw.list (Pw.build rfl rfl rfl rfl ?_) | refine Pw.list (Pw.ld rfl inferInstance rfl rfl rfl ?_) | refine Pw.list (Pw.sto rfl rfl inferInstance rfl rfl rfl rfl rfl inferInstance rfl ?_))
  refine Pw.list (Pw.call d1 rfl rfl rfl (by kernel_rfl) rfl rfl (fun w h => ⟨(hv w h), (hv w h)⟩) ?_)
  intro z1 _
  repeat (first | (with_reducible first | refine Pw.seq ?_ | refine Pw.region ?_ | refine Pw.nil ?_ | refine Pw.then_ ?_ | refine Pw.skip ?_ | refine Pw.block ?_ | refine Pw.exit ?_ | refine Pw.inX ?_ | refine Pw.inN ?_ | refine Pw.inR ?_ | refine Pw.thenX ?_ | refine Pw.thenR ?_ | refine Pw.ret ?_) | refine Pw.list (Pw.pure rfl rfl rfl ?_) | refine Pw.inY rfl ?_ | refine Pw.list (Pw.off rfl rfl ?_) | refine Pw.condT rfl ?_ | refine Pw.condF rfl ?_ | refine Pw.list (Pw.box rfl rfl rfl rfl (fun _ => freeHead ?_)) | refine Pw.list (Pw.alloc rfl rfl rfl rfl rfl (fun _ => ?_)) | refine Pw.list (Pw.build rfl rfl rfl rfl ?_) | refine Pw.list (Pw.ld rfl inferInstance rfl rfl rfl ?_) | refine Pw.list (Pw.sto rfl rfl inferInstance rfl rfl rfl rfl rfl inferInstance rfl ?_))
  refine Pw.list (Pw.call d2 rfl rfl rfl (by kernel_rfl) rfl rfl (fun w h => ⟨(hv w h), (hv w h)⟩) ?_)
  intro z2 _
  repeat (first | (with_reducible first | refine Pw.seq ?_ | refine Pw.region ?_ | refine Pw.nil ?_ | refine Pw.then_ ?_ | refine Pw.skip ?_ | refine Pw.block ?_ | refine Pw.exit ?_ | refine Pw.inX ?_ | refine Pw.inN ?_ | refine Pw.inR ?_ | refine Pw.thenX ?_ | refine Pw.thenR ?_ | refine Pw.ret ?_) | refine Pw.list (Pw.pure rfl rfl rfl ?_) | refine Pw.inY rfl ?_ | refine Pw.list (Pw.off rfl rfl ?_) | refine Pw.condT rfl ?_ | refine Pw.condF rfl ?_ | refine Pw.list (Pw.box rfl rfl rfl rfl (fun _ => freeHead ?_)) | refine Pw.list (Pw.alloc rfl rfl rfl rfl rfl (fun _ => ?_)) | refine Pw.list (Pw.build rfl rfl rfl rfl ?_) | refine Pw.list (Pw.ld rfl inferInstance rfl rfl rfl ?_) | refine Pw.list (Pw.sto rfl rfl inferInstance rfl rfl rfl rfl rfl inferInstance rfl ?_))
  exact Pw.ret_ (x := (z1.1, z2.1)) (.cell rfl (fun w hs => hs.own _ (.head _)) rfl .nil) rfl trivial (fun w h => ⟨(fact1 h).1, (fact0 h).1⟩)
theorem SameRatio_ct (a b c d : List Int) (y z : Z2) (ha : Fm a) (hb : Fm b) (hc : Fm c) (hd : Fm d) (la : a.length < 1048576) (lb : b.length < 1048576) (lc : c.length < 1048576) (ld : d.length < 1048576) :
    Ct Tryz.prog 27 #[rt a b y, rt c d z] (fun W => R2 a b y W ∧ R2 c d z W) (fun _ : Unit => .bool (decide (val a = val c) && decide (val b = val d))) Tt (fun _ _ => True) := by
  refine Ct.start Tryz.func27 rfl rfl (slots_of rfl slots2) (fun D w0 => Pw.facts two2 ?_)
  repeat (first | (with_reducible first | refine Pw.seq ?_ | refine Pw.region ?_ | refine Pw.nil ?_ | refine Pw.then_ ?_ | refine Pw.skip ?_ | refine Pw.block ?_ | refine Pw.exit ?_ | refine Pw.inX ?_ | refine Pw.inN ?_ | refine Pw.inR ?_ | refine Pw.thenX ?_ | refine Pw.thenR ?_ | refine Pw.ret ?_) | refine Pw.list (Pw.pure rfl rfl rfl ?_) | refine Pw.inY rfl ?_ | refine Pw.list (Pw.off rfl rfl ?_) | refine Pw.condT rfl ?_ | refine Pw.condF rfl ?_ | refine Pw.list (Pw.box rfl rfl rfl rfl (fun _ => freeHead ?_)) | refine Pw.list (Pw.alloc rfl rfl rfl rfl rfl (fun _ => ?_)) | refine Pw.list (Pw.build rfl rfl rfl rfl ?_) | refine Pw.list (Pw.ld rfl inferInstance rfl rfl rfl ?_) | refine Pw.list (Pw.sto rfl rfl inferInstance rfl rfl rfl rfl rfl inferInstance rfl ?_))
  refine Pw.list (Pw.call (rSame_ct a c y.1 z.1 ha hc (by omega) (by omega)) rfl rfl rfl (by kernel_rfl) rfl rfl (fun w h => ⟨(hv w h), (hv w h)⟩) ?_)
  intro _ _
  generalize decide (val a = val c) = t
  cases t
  · repeat (first | (with_reducible first | refine Pw.seq ?_ | refine Pw.region ?_ | refine Pw.nil ?_ | refine Pw.then_ ?_ | refine Pw.skip ?_ | refine Pw.block ?_ | refine Pw.exit ?_ | refine Pw.inX ?_ | refine Pw.inN ?_ | refine Pw.inR ?_ | refine Pw.thenX ?_ | refine Pw.thenR ?_ | refine Pw.ret ?_) | refine Pw.list (Pw.pure rfl rfl rfl ?_) | refine Pw.inY rfl ?_ | refine Pw.list (Pw.off rfl rfl ?_) | refine Pw.condT rfl ?_ | refine Pw.condF rfl ?_ | refine Pw.list (Pw.box rfl rfl rfl rfl (fun _ => freeHead ?_)) | refine Pw.list (Pw.alloc rfl rfl rfl rfl rfl (fun _ => ?_)) | refine Pw.list (Pw.build rfl rfl rfl rfl ?_) | refine Pw.list (Pw.ld rfl inferInstance rfl rfl rfl ?_) | refine Pw.list (Pw.sto rfl rfl inferInstance rfl rfl rfl rfl rfl inferInstance rfl ?_))
    exact Pw.ret_ (x := ()) (.tmp rfl .nil) rfl trivial (fun w h => by trivial)
  · repeat (first | (with_reducible first | refine Pw.seq ?_ | refine Pw.region ?_ | refine Pw.nil ?_ | refine Pw.then_ ?_ | refine Pw.skip ?_ | refine Pw.block ?_ | refine Pw.exit ?_ | refine Pw.inX ?_ | refine Pw.inN ?_ | refine Pw.inR ?_ | refine Pw.thenX ?_ | refine Pw.thenR ?_ | refine Pw.ret ?_) | refine Pw.list (Pw.pure rfl rfl rfl ?_) | refine Pw.inY rfl ?_ | refine Pw.list (Pw.off rfl rfl ?_) | refine Pw.condT rfl ?_ | refine Pw.condF rfl ?_ | refine Pw.list (Pw.box rfl rfl rfl rfl (fun _ => freeHead ?_)) | refine Pw.list (Pw.alloc rfl rfl rfl rfl rfl (fun _ => ?_)) | refine Pw.list (Pw.build rfl rfl rfl rfl ?_) | refine Pw.list (Pw.ld rfl inferInstance rfl rfl rfl ?_) | refine Pw.list (Pw.sto rfl rfl inferInstance rfl rfl rfl rfl rfl inferInstance rfl ?_))
    refine Pw.list (Pw.call (rSame_ct b d y.2 z.2 hb hd (by omega) (by omega)) rfl rfl rfl (by kernel_rfl) rfl rfl (fun w h => ⟨(hv w h), (hv w h)⟩) ?_)
    intro _ _
    repeat (first | (with_reducible first | refine Pw.seq ?_ | refine Pw.region ?_ | refine Pw.nil ?_ | refine Pw.then_ ?_ | refine Pw.skip ?_ | refine Pw.block ?_ | refine Pw.exit ?_ | refine Pw.inX ?_ | refine Pw.inN ?_ | refine Pw.inR ?_ | refine Pw.thenX ?_ | refine Pw.thenR ?_ | refine Pw.ret ?_) | refine Pw.list (Pw.pure rfl rfl rfl ?_) | refine Pw.inY rfl ?_ | refine Pw.list (Pw.off rfl rfl ?_) | refine Pw.condT rfl ?_ | refine Pw.condF rfl ?_ | refine Pw.list (Pw.box rfl rfl rfl rfl (fun _ => freeHead ?_)) | refine Pw.list (Pw.alloc rfl rfl rfl rfl rfl (fun _ => ?_)) | refine Pw.list (Pw.build rfl rfl rfl rfl ?_) | refine Pw.list (Pw.ld rfl inferInstance rfl rfl rfl ?_) | refine Pw.list (Pw.sto rfl rfl inferInstance rfl rfl rfl rfl rfl inferInstance rfl ?_))
    exact Pw.ret_ (x := ()) (.tmp rfl .nil) rfl trivial (fun w h => by trivial)
theorem FormedRatio_ct (a b : List Int) (z : Z2) (ha : Lm a) (hb : Lm b) (la : a.length < 1048576) (lb : b.length < 1048576) :
    Ct Tryz.prog 21 #[rt a b z] (R2 a b z) (fun _ : Unit => .bool (formedR a b)) Tt (fun _ _ => True) := by
  refine Ct.start Tryz.func21 rfl rfl (slots_of rfl slots1) (fun D w0 => ?_)
  unfold formedR
  repeat (first | (with_reducible first | refine Pw.seq ?_ | refine Pw.region ?_ | refine Pw.nil ?_ | refine Pw.then_ ?_ | refine Pw.skip ?_ | refine Pw.block ?_ | refine Pw.exit ?_ | refine Pw.inX ?_ | refine Pw.inN ?_ | refine Pw.inR ?_ | refine Pw.thenX ?_ | refine Pw.thenR ?_ | refine Pw.ret ?_) | refine Pw.list (Pw.pure rfl rfl rfl ?_) | refine Pw.inY rfl ?_ | refine Pw.list (Pw.off rfl rfl ?_) | refine Pw.condT rfl ?_ | refine Pw.condF rfl ?_ | refine Pw.list (Pw.box rfl rfl rfl rfl (fun _ => freeHead ?_)) | refine Pw.list (Pw.alloc rfl rfl rfl rfl rfl (fun _ => ?_)) | refine Pw.list (Pw.build rfl rfl rfl rfl ?_) | refine Pw.list (Pw.ld rfl inferInstance rfl rfl rfl ?_) | refine Pw.list (Pw.sto rfl rfl inferInstance rfl rfl rfl rfl rfl inferInstance rfl ?_))
  refine Pw.list (Pw.call (rFormed_ct a z.1 (by omega)) rfl rfl rfl (by kernel_rfl) rfl rfl (fun w h => (hv w h)) ?_)
  intro _ _
  cases e1 : fmB a
  · repeat (first | (with_reducible first | refine Pw.seq ?_ | refine Pw.region ?_ | refine Pw.nil ?_ | refine Pw.then_ ?_ | refine Pw.skip ?_ | refine Pw.block ?_ | refine Pw.exit ?_ | refine Pw.inX ?_ | refine Pw.inN ?_ | refine Pw.inR ?_ | refine Pw.thenX ?_ | refine Pw.thenR ?_ | refine Pw.ret ?_) | refine Pw.list (Pw.pure rfl rfl rfl ?_) | refine Pw.inY rfl ?_ | refine Pw.list (Pw.off rfl rfl ?_) | refine Pw.condT rfl ?_ | refine Pw.condF rfl ?_ | refine Pw.list (Pw.box rfl rfl rfl rfl (fun _ => freeHead ?_)) | refine Pw.list (Pw.alloc rfl rfl rfl rfl rfl (fun _ => ?_)) | refine Pw.list (Pw.build rfl rfl rfl rfl ?_) | refine Pw.list (Pw.ld rfl inferInstance rfl rfl rfl ?_) | refine Pw.list (Pw.sto rfl rfl inferInstance rfl rfl rfl rfl rfl inferInstance rfl ?_))
    exact Pw.ret_ (x := ()) (.tmp rfl .nil) rfl trivial (fun w h => by trivial)
  repeat (first | (with_reducible first | refine Pw.seq ?_ | refine Pw.region ?_ | refine Pw.nil ?_ | refine Pw.then_ ?_ | refine Pw.skip ?_ | refine Pw.block ?_ | refine Pw.exit ?_ | refine Pw.inX ?_ | refine Pw.inN ?_ | refine Pw.inR ?_ | refine Pw.thenX ?_ | refine Pw.thenR ?_ | refine Pw.ret ?_) | refine Pw.list (Pw.pure rfl rfl rfl ?_) | refine Pw.inY rfl ?_ | refine Pw.list (Pw.off rfl rfl ?_) | refine Pw.condT rfl ?_ | refine Pw.condF rfl ?_ | refine Pw.list (Pw.box rfl rfl rfl rfl (fun _ => freeHead ?_)) | refine Pw.list (Pw.alloc rfl rfl rfl rfl rfl (fun _ => ?_)) | refine Pw.list (Pw.build rfl rfl rfl rfl ?_) | refine Pw.list (Pw.ld rfl inferInstance rfl rfl rfl ?_) | refine Pw.list (Pw.sto rfl rfl inferInstance rfl rfl rfl rfl rfl inferInstance rfl ?_))
  refine Pw.list (Pw.call (rFormed_ct b z.2 (by omega)) rfl rfl rfl (by kernel_rfl) rfl rfl (fun w h => (hv w h)) ?_)
  intro _ _
  cases e2 : fmB b
  · repeat (first | (with_reducible first | refine Pw.seq ?_ | refine Pw.region ?_ | refine Pw.nil ?_ | refine Pw.then_ ?_ | refine Pw.skip ?_ | refine Pw.block ?_ | refine Pw.exit ?_ | refine Pw.inX ?_ | refine Pw.inN ?_ | refine Pw.inR ?_ | refine Pw.thenX ?_ | refine Pw.thenR ?_ | refine Pw.ret ?_) | refine Pw.list (Pw.pure rfl rfl rfl ?_) | refine Pw.inY rfl ?_ | refine Pw.list (Pw.off rfl rfl ?_) | refine Pw.condT rfl ?_ | refine Pw.condF rfl ?_ | refine Pw.list (Pw.box rfl rfl rfl rfl (fun _ => freeHead ?_)) | refine Pw.list (Pw.alloc rfl rfl rfl rfl rfl (fun _ => ?_)) | refine Pw.list (Pw.build rfl rfl rfl rfl ?_) | refine Pw.list (Pw.ld rfl inferInstance rfl rfl rfl ?_) | refine Pw.list (Pw.sto rfl rfl inferInstance rfl rfl rfl rfl rfl inferInstance rfl ?_))
    exact Pw.ret_ (x := ()) (.tmp rfl .nil) rfl trivial (fun w h => by trivial)
  repeat (first | (with_reducible first | refine Pw.seq ?_ | refine Pw.region ?_ | refine Pw.nil ?_ | refine Pw.then_ ?_ | refine Pw.skip ?_ | refine Pw.block ?_ | refine Pw.exit ?_ | refine Pw.inX ?_ | refine Pw.inN ?_ | refine Pw.inR ?_ | refine Pw.thenX ?_ | refine Pw.thenR ?_ | refine Pw.ret ?_) | refine Pw.list (Pw.pure rfl rfl rfl ?_) | refine Pw.inY rfl ?_ | refine Pw.list (Pw.off rfl rfl ?_) | refine Pw.condT rfl ?_ | refine Pw.condF rfl ?_ | refine Pw.list (Pw.box rfl rfl rfl rfl (fun _ => freeHead ?_)) | refine Pw.list (Pw.alloc rfl rfl rfl rfl rfl (fun _ => ?_)) | refine Pw.list (Pw.build rfl rfl rfl rfl ?_) | refine Pw.list (Pw.ld rfl inferInstance rfl rfl rfl ?_) | refine Pw.list (Pw.sto rfl rfl inferInstance rfl rfl rfl rfl rfl inferInstance rfl ?_))
  refine Pw.split 17 rfl (fun c1 => ?_) (fun c1 => ?_)
  · have h0 : 0 < b.length := by omega
    have hfb := ((fmB_iff hb).1 e2)
    have hbp := val_pos_of hfb.2 (by omega)
    have gl := gcdI_le (x := val a) hbp
    have g0 := gcdI_nonneg (val a) (val b)
    have lg := natL_len_le (n := b.length) g0 (by have := val_lt_pw hb; omega)
    rw [decide_eq_true h0]
    repeat (first | (with_reducible first | refine Pw.seq ?_ | refine Pw.region ?_ | refine Pw.nil ?_ | refine Pw.then_ ?_ | refine Pw.skip ?_ | refine Pw.block ?_ | refine Pw.exit ?_ | refine Pw.inX ?_ | refine Pw.inN ?_ | refine Pw.inR ?_ | refine Pw.thenX ?_ | refine Pw.thenR ?_ | refine Pw.ret ?_) | refine Pw.list (Pw.pure rfl rfl rfl ?_) | refine Pw.inY rfl ?_ | refine Pw.list (Pw.off rfl rfl ?_) | refine Pw.condT rfl ?_ | refine Pw.condF rfl ?_ | refine Pw.list (Pw.box rfl rfl rfl rfl (fun _ => freeHead ?_)) | refine Pw.list (Pw.alloc rfl rfl rfl rfl rfl (fun _ => ?_)) | refine Pw.list (Pw.build rfl rfl rfl rfl ?_) | refine Pw.list (Pw.ld rfl inferInstance rfl rfl rfl ?_) | refine Pw.list (Pw.sto rfl rfl inferInstance rfl rfl rfl rfl rfl inferInstance rfl ?_))
    refine Pw.list (Pw.call (rgcd_ct a b z.1 z.2 ((fmB_iff ha).1 e1).2 hfb.2 la lb) rfl rfl rfl (by kernel_rfl) rfl rfl (fun w h => ⟨(hv w h), (hv w h)⟩) ?_)
    intro zg _
    repeat (first | (with_reducible first | refine Pw.seq ?_ | refine Pw.region ?_ | refine Pw.nil ?_ | refine Pw.then_ ?_ | refine Pw.skip ?_ | refine Pw.block ?_ | refine Pw.exit ?_ | refine Pw.inX ?_ | refine Pw.inN ?_ | refine Pw.inR ?_ | refine Pw.thenX ?_ | refine Pw.thenR ?_ | refine Pw.ret ?_) | refine Pw.list (Pw.pure rfl rfl rfl ?_) | refine Pw.inY rfl ?_ | refine Pw.list (Pw.off rfl rfl ?_) | refine Pw.condT rfl ?_ | refine Pw.condF rfl ?_ | refine Pw.list (Pw.box rfl rfl rfl rfl (fun _ => freeHead ?_)) | refine Pw.list (Pw.alloc rfl rfl rfl rfl rfl (fun _ => ?_)) | refine Pw.list (Pw.build rfl rfl rfl rfl ?_) | refine Pw.list (Pw.ld rfl inferInstance rfl rfl rfl ?_) | refine Pw.list (Pw.sto rfl rfl inferInstance rfl rfl rfl rfl rfl inferInstance rfl ?_))
    refine Pw.list (Pw.lit1 rfl rfl rfl rfl rfl rfl rfl rfl rfl (fun g1 => freeHead ?_))
    have hs := rSame_ct (natL (gcdI (val a) (val b))) [1] zg (some ⟨g1, 0, none⟩, 1) (natL_fm _) (by rw [← natL_one]; exact natL_fm 1) (by omega) (by simp)
    rw [val_natL g0, show val [1] = 1 by simp [val]] at hs
    refine Pw.list (Pw.call hs rfl rfl rfl (by kernel_rfl) rfl rfl (fun w h => ⟨(hv w h), ints_of_row' (l := [1]) (fact0 h) (by simp) (by simp [maxLen])⟩) ?_)
    intro _ _
    repeat (first | (with_reducible first | refine Pw.seq ?_ | refine Pw.region ?_ | refine Pw.nil ?_ | refine Pw.then_ ?_ | refine Pw.skip ?_ | refine Pw.block ?_ | refine Pw.exit ?_ | refine Pw.inX ?_ | refine Pw.inN ?_ | refine Pw.inR ?_ | refine Pw.thenX ?_ | refine Pw.thenR ?_ | refine Pw.ret ?_) | refine Pw.list (Pw.pure rfl rfl rfl ?_) | refine Pw.inY rfl ?_ | refine Pw.list (Pw.off rfl rfl ?_) | refine Pw.condT rfl ?_ | refine Pw.condF rfl ?_ | refine Pw.list (Pw.box rfl rfl rfl rfl (fun _ => freeHead ?_)) | refine Pw.list (Pw.alloc rfl rfl rfl rfl rfl (fun _ => ?_)) | refine Pw.list (Pw.build rfl rfl rfl rfl ?_) | refine Pw.list (Pw.ld rfl inferInstance rfl rfl rfl ?_) | refine Pw.list (Pw.sto rfl rfl inferInstance rfl rfl rfl rfl rfl inferInstance rfl ?_))
    exact Pw.ret_ (x := ()) (.tmp rfl .nil) rfl trivial (fun w h => by trivial)
  · have h0 : ¬ 0 < b.length := by omega
    rw [decide_eq_false h0]
    repeat (first | (with_reducible first | refine Pw.seq ?_ | refine Pw.region ?_ | refine Pw.nil ?_ | refine Pw.then_ ?_ | refine Pw.skip ?_ | refine Pw.block ?_ | refine Pw.exit ?_ | refine Pw.inX ?_ | refine Pw.inN ?_ | refine Pw.inR ?_ | refine Pw.thenX ?_ | refine Pw.thenR ?_ | refine Pw.ret ?_) | refine Pw.list (Pw.pure rfl rfl rfl ?_) | refine Pw.inY rfl ?_ | refine Pw.list (Pw.off rfl rfl ?_) | refine Pw.condT rfl ?_ | refine Pw.condF rfl ?_ | refine Pw.list (Pw.box rfl rfl rfl rfl (fun _ => freeHead ?_)) | refine Pw.list (Pw.alloc rfl rfl rfl rfl rfl (fun _ => ?_)) | refine Pw.list (Pw.build rfl rfl rfl rfl ?_) | refine Pw.list (Pw.ld rfl inferInstance rfl rfl rfl ?_) | refine Pw.list (Pw.sto rfl rfl inferInstance rfl rfl rfl rfl rfl inferInstance rfl ?_))
    exact Pw.ret_ (x := ()) (.tmp rfl .nil) rfl trivial (fun w h => by trivial)
end Go.Proofs.Wk
/- Walks of the reference's fractions: reckoning. -/
namespace Go.Proofs.Wk
open Go.RowKit
set_option maxRecDepth 100000
attribute [local irreducible] Pw OpG
set_option linter.unusedVariables false
set_option linter.unusedSimpArgs false
def crossS (a b c d : List Int) : List Int × List Int × Int := if (natL (val a * val d)).length ≤ 400 ∧ (natL (val c * val b)).length ≤ 400 then (natL (val a * val d), natL (val c * val b), 0) else ([], [], 4)
theorem cross_ct (a b c d : List Int) (y z : Z2) (ha : Lm a) (hb : Lm b) (hc : Lm c) (hd : Lm d) (la : a.length < 1048576) (lb : b.length < 1048576) (lc : c.length < 1048576) (ld : d.length < 1048576) :
    Ct Tryz.prog 49 #[rt a b y, rt c d z] (fun W => R2 a b y W ∧ R2 c d z W) (fun x : Z2 => .tuple #[sl (crossS a b c d).1 x.1, sl (crossS a b c d).2.1 x.2, .int .i64 (crossS a b c d).2.2]) Tt (fun x => R2 (crossS a b c d).1 (crossS a b c d).2.1 x) := by
  refine Ct.start Tryz.func49 rfl rfl (slots_of rfl slots2) (fun D w0 => Pw.facts two2 ?_)
  unfold crossS
  repeat (first | (with_reducible first | refine Pw.seq ?_ | refine Pw.region ?_ | refine Pw.nil ?_ | refine Pw.then_ ?_ | refine Pw.skip ?_ | refine Pw.block ?_ | refine Pw.exit ?_ | refine Pw.inX ?_ | refine Pw.inN ?_ | refine Pw.inR ?_ | refine Pw.thenX ?_ | refine Pw.thenR ?_ | refine Pw.ret ?_) | refine Pw.list (Pw.pure rfl rfl rfl ?_) | refine Pw.inY rfl ?_ | refine Pw.list (Pw.off rfl rfl ?_) | refine Pw.condT rfl ?_ | refine Pw.condF rfl ?_ | refine Pw.list (Pw.box rfl rfl rfl rfl (fun _ => freeHead ?_)) | refine Pw.list (Pw.alloc rfl rfl rfl rfl rfl (fun _ => ?_)) | refine Pw.list (Pw.build rfl rfl rfl rfl ?_) | refine Pw.list (Pw.ld rfl inferInstance rfl rfl rfl ?_) | refine Pw.list (Pw.sto rfl rfl inferInstance rfl rfl rfl rfl rfl inferInstance rfl ?_))
  refine Pw.list (Pw.call (rmul_ct a d y.1 z.2 ha hd la ld) rfl rfl rfl (by kernel_rfl) rfl rfl (fun w h => ⟨(hv w h), (hv w h)⟩) ?_)
  intro z1 _
  repeat (first | (with_reducible first | refine Pw.seq ?_ | refine Pw.region ?_ | refine Pw.nil ?_ | refine Pw.then_ ?_ | refine Pw.skip ?_ | refine Pw.block ?_ | refine Pw.exit ?_ | refine Pw.inX ?_ | refine Pw.inN ?_ | refine Pw.inR ?_ | refine Pw.thenX ?_ | refine Pw.thenR ?_ | refine Pw.ret ?_) | refine Pw.list (Pw.pure rfl rfl rfl ?_) | refine Pw.inY rfl ?_ | refine Pw.list (Pw.off rfl rfl ?_) | refine Pw.condT rfl ?_ | refine Pw.condF rfl ?_ | refine Pw.list (Pw.box rfl rfl rfl rfl (fun _ => freeHead ?_)) | refine Pw.list (Pw.alloc rfl rfl rfl rfl rfl (fun _ => ?_)) | refine Pw.list (Pw.build rfl rfl rfl rfl ?_) | refine Pw.list (Pw.ld rfl inferInstance rfl rfl rfl ?_) | refine Pw.list (Pw.sto rfl rfl inferInstance rfl rfl rfl rfl rfl inferInstance rfl ?_))
  have hb1 := rbounded_ct (natL (val a * val d)) z1
  by_cases q1 : (natL (val a * val d)).length ≤ 400
  · rw [bd_ok q1] at hb1
    refine Pw.list (Pw.call hb1 rfl rfl rfl (by kernel_rfl) rfl rfl (fun w h => (hv w h)) ?_)
    intro z2 _
    repeat (first | (with_reducible first | refine Pw.seq ?_ | refine Pw.region ?_ | refine Pw.nil ?_ | refine Pw.then_ ?_ | refine Pw.skip ?_ | refine Pw.block ?_ | refine Pw.exit ?_ | refine Pw.inX ?_ | refine Pw.inN ?_ | refine Pw.inR ?_ | refine Pw.thenX ?_ | refine Pw.thenR ?_ | refine Pw.ret ?_) | refine Pw.list (Pw.pure rfl rfl rfl ?_) | refine Pw.inY rfl ?_ | refine Pw.list (Pw.off rfl rfl ?_) | refine Pw.condT rfl ?_ | refine Pw.condF rfl ?_ | refine Pw.list (Pw.box rfl rfl rfl rfl (fun _ => freeHead ?_)) | refine Pw.list (Pw.alloc rfl rfl rfl rfl rfl (fun _ => ?_)) | refine Pw.list (Pw.build rfl rfl rfl rfl ?_) | refine Pw.list (Pw.ld rfl inferInstance rfl rfl rfl ?_) | refine Pw.list (Pw.sto rfl rfl inferInstance rfl rfl rfl rfl rfl inferInstance rfl ?_))
    refine Pw.list (Pw.call (rmul_ct c b z.1 y.2 hc hb lc lb) rfl rfl rfl (by kernel_rfl) rfl rfl (fun w h => ⟨(hv w h), (hv w h)⟩) ?_)
    intro z3 _
    repeat (first | (with_reducible first | refine Pw.seq ?_ | refine Pw.region ?_ | refine Pw.nil ?_ | refine Pw.then_ ?_ | refine Pw.skip ?_ | refine Pw.block ?_ | refine Pw.exit ?_ | refine Pw.inX ?_ | refine Pw.inN ?_ | refine Pw.inR ?_ | refine Pw.thenX ?_ | refine Pw.thenR ?_ | refine Pw.ret ?_) | refine Pw.list (Pw.pure rfl rfl rfl ?_) | refine Pw.inY rfl ?_ | refine Pw.list (Pw.off rfl rfl ?_) | refine Pw.condT rfl ?_ | refine Pw.condF rfl ?_ | refine Pw.list (Pw.box rfl rfl rfl rfl (fun _ => freeHead ?_)) | refine Pw.list (Pw.alloc rfl rfl rfl rfl rfl (fun _ => ?_)) | refine Pw.list (Pw.build rfl rfl rfl rfl ?_) | refine Pw.list (Pw.ld rfl inferInstance rfl rfl rfl ?_) | refine Pw.list (Pw.sto rfl rfl inferInstance rfl rfl rfl rfl rfl inferInstance rfl ?_))
    have hb2 := rbounded_ct (natL (val c * val b)) z3
    by_cases q2 : (natL (val c * val b)).length ≤ 400
    · rw [bd_ok q2] at hb2
      rw [if_pos ⟨q1, q2⟩]
      refine Pw.list (Pw.call hb2 rfl rfl rfl (by kernel_rfl) rfl rfl (fun w h => (hv w h)) ?_)
      intro z4 _
      repeat (first | (with_reducible first | refine Pw.seq ?_ | refine Pw.region ?_ | refine Pw.nil ?_ | refine Pw.then_ ?_ | refine Pw.skip ?_ | refine Pw.block ?_ | refine Pw.exit ?_ | refine Pw.inX ?_ | refine Pw.inN ?_ | refine Pw.inR ?_ | refine Pw.thenX ?_ | refine Pw.thenR ?_ | refine Pw.ret ?_) | refine Pw.list (Pw.pure rfl rfl rfl ?_) | refine Pw.inY rfl ?_ | refine Pw.list (Pw.off rfl rfl ?_) | refine Pw.condT rfl ?_ | refine Pw.condF rfl ?_ | refine Pw.list (Pw.box rfl rfl rfl rfl (fun _ => freeHead ?_)) | refine Pw.list (Pw.alloc rfl rfl rfl rfl rfl (fun _ => ?_)) | refine Pw.list (Pw.build rfl rfl rfl rfl ?_) | refine Pw.list (Pw.ld rfl inferInstance rfl rfl rfl ?_) | refine Pw.list (Pw.sto rfl rfl inferInstance rfl rfl rfl rfl rfl inferInstance rfl ?_))
      exact Pw.ret_ (x := (z2, z4)) (.tmp rfl (.tmp rfl (.tmp rfl .nil))) rfl trivial (fun w h => ⟨(hv w h), (hv w h)⟩)
    · rw [bd_no q2] at hb2
      rw [if_neg (fun e => q2 e.2)]
      refine Pw.list (Pw.call hb2 rfl rfl rfl (by kernel_rfl) rfl rfl (fun w h => (hv w h)) ?_)
      intro z4 _
      repeat (first | (with_reducible first | refine Pw.seq ?_ | refine Pw.region ?_ | refine Pw.nil ?_ | refine Pw.then_ ?_ | refine Pw.skip ?_ | refine Pw.block ?_ | refine Pw.exit ?_ | refine Pw.inX ?_ | refine Pw.inN ?_ | refine Pw.inR ?_ | refine Pw.thenX ?_ | refine Pw.thenR ?_ | refine Pw.ret ?_) | refine Pw.list (Pw.pure rfl rfl rfl ?_) | refine Pw.inY rfl ?_ | refine Pw.list (Pw.off rfl rfl ?_) | refine Pw.condT rfl ?_ | refine Pw.condF rfl ?_ | refine Pw.list (Pw.box rfl rfl rfl rfl (fun _ => freeHead ?_)) | refine Pw.list (Pw.alloc rfl rfl rfl rfl rfl (fun _ => ?_)) | refine Pw.list (Pw.build rfl rfl rfl rfl ?_) | refine Pw.list (Pw.ld rfl inferInstance rfl rfl rfl ?_) | refine Pw.list (Pw.sto rfl rfl inferInstance rfl rfl rfl rfl rfl inferInstance rfl ?_))
      exact Pw.ret_ (x := z0) (.tmp rfl (.tmp rfl (.tmp rfl .nil))) rfl trivial (fun w h => R2.nil w)
  · rw [bd_no q1] at hb1
    rw [if_neg (fun e => q1 e.1)]
    refine Pw.list (Pw.call hb1 rfl rfl rfl (by kernel_rfl) rfl rfl (fun w h => (hv w h)) ?_)
    intro z2 _
    repeat (first | (with_reducible first | refine Pw.seq ?_ | refine Pw.region ?_ | refine Pw.nil ?_ | refine Pw.then_ ?_ | refine Pw.skip ?_ | refine Pw.block ?_ | refine Pw.exit ?_ | refine Pw.inX ?_ | refine Pw.inN ?_ | refine Pw.inR ?_ | refine Pw.thenX ?_ | refine Pw.thenR ?_ | refine Pw.ret ?_) | refine Pw.list (Pw.pure rfl rfl rfl ?_) | refine Pw.inY rfl ?_ | refine Pw.list (Pw.off rfl rfl ?_) | refine Pw.condT rfl ?_ | refine Pw.condF rfl ?_ | refine Pw.list (Pw.box rfl rfl rfl rfl (fun _ => freeHead ?_)) | refine Pw.list (Pw.alloc rfl rfl rfl rfl rfl (fun _ => ?_)) | refine Pw.list (Pw.build rfl rfl rfl rfl ?_) | refine Pw.list (Pw.ld rfl inferInstance rfl rfl rfl ?_) | refine Pw.list (Pw.sto rfl rfl inferInstance rfl rfl rfl rfl rfl inferInstance rfl ?_))
    refine Pw.list (Pw.call (rmul_ct c b z.1 y.2 hc hb lc lb) rfl rfl rfl (by kernel_rfl) rfl rfl (fun w h => ⟨(hv w h), (hv w h)⟩) ?_)
    intro z3 _
    repeat (first | (with_reducible first | refine Pw.seq ?_ | refine Pw.region ?_ | refine Pw.nil ?_ | refine Pw.then_ ?_ | refine Pw.skip ?_ | refine Pw.block ?_ | refine Pw.exit ?_ | refine Pw.inX ?_ | refine Pw.inN ?_ | refine Pw.inR ?_ | refine Pw.thenX ?_ | refine Pw.thenR ?_ | refine Pw.ret ?_) | refine Pw.list (Pw.pure rfl rfl rfl ?_) | refine Pw.inY rfl ?_ | refine Pw.list (Pw.off rfl rfl ?_) | refine Pw.condT rfl ?_ | refine Pw.condF rfl ?_ | refine Pw.list (Pw.box rfl rfl rfl rfl (fun _ => freeHead ?_)) | refine Pw.list (Pw.alloc rfl rfl rfl rfl rfl (fun _ => ?_)) | refine Pw.list (Pw.build rfl rfl rfl rfl ?_) | refine Pw.list (Pw.ld rfl inferInstance rfl rfl rfl ?_) | refine Pw.list (Pw.sto rfl rfl inferInstance rfl rfl rfl rfl rfl inferInstance rfl ?_))
    refine Pw.list (Pw.call (rbounded_ct (natL (val c * val b)) z3) rfl rfl rfl (by kernel_rfl) rfl rfl (fun w h => (hv w h)) ?_)
    intro z4 _
    repeat (first | (with_reducible first | refine Pw.seq ?_ | refine Pw.region ?_ | refine Pw.nil ?_ | refine Pw.then_ ?_ | refine Pw.skip ?_ | refine Pw.block ?_ | refine Pw.exit ?_ | refine Pw.inX ?_ | refine Pw.inN ?_ | refine Pw.inR ?_ | refine Pw.thenX ?_ | refine Pw.thenR ?_ | refine Pw.ret ?_) | refine Pw.list (Pw.pure rfl rfl rfl ?_) | refine Pw.inY rfl ?_ | refine Pw.list (Pw.off rfl rfl ?_) | refine Pw.condT rfl ?_ | refine Pw.condF rfl ?_ | refine Pw.list (Pw.box rfl rfl rfl rfl (fun _ => freeHead ?_)) | refine Pw.list (Pw.alloc rfl rfl rfl rfl rfl (fun _ => ?_)) | refine Pw.list (Pw.build rfl rfl rfl rfl ?_) | refine Pw.list (Pw.ld rfl inferInstance rfl rfl rfl ?_) | refine Pw.list (Pw.sto rfl rfl inferInstance rfl rfl rfl rfl rfl inferInstance rfl ?_))
    exact Pw.ret_ (x := z0) (.tmp rfl (.tmp rfl (.tmp rfl .nil))) rfl trivial (fun w h => R2.nil w)
theorem low_len {p q : Int} (hq : 0 < q) (h2 : (natL q).length ≤ 400) : (natL q).length ≠ 0 ∧ (natL q).length < 1048576 := ⟨fun e => by have := (natL_len_zero (show 0 ≤ q by omega)).1 e; omega, by omega⟩
end Go.Proofs.Wk
/- Walks of the laws of layer 2: their helpers. -/
namespace Go.Proofs.Wk
open Go.RowKit
set_option maxRecDepth 100000
attribute [local irreducible] Pw OpG
set_option linter.unusedVariables false
set_option linter.unusedSimpArgs false
theorem Theirs_ct (a b : List Int) (z : Z2) : Ct Tryz.prog 20 #[rt a b z] (fun _ => True) (fun _ : Unit => rt a b z) Tt (fun _ _ => True) := by
  refine Ct.start Tryz.func20 rfl rfl (slots_of rfl slots1) (fun D w0 => ?_)
  repeat (first | (with_reducible first | refine Pw.seq ?_ | refine Pw.region ?_ | refine Pw.nil ?_ | refine Pw.then_ ?_ | refine Pw.skip ?_ | refine Pw.block ?_ | refine Pw.exit ?_ | refine Pw.inX ?_ | refine Pw.inN ?_ | refine Pw.inR ?_ | refine Pw.thenX ?_ | refine Pw.thenR ?_ | refine Pw.ret ?_) | refine Pw.list (Pw.pure rfl rfl rfl ?_) | refine Pw.inY rfl ?_ | refine Pw.list (Pw.off rfl rfl ?_) | refine Pw.condT rfl ?_ | refine Pw.condF rfl ?_ | refine Pw.list (Pw.box rfl rfl rfl rfl (fun _ => freeHead ?_)) | refine Pw.list (Pw.alloc rfl rfl rfl rfl rfl (fun _ => ?_)) | refine Pw.list (Pw.build rfl rfl rfl rfl ?_) | refine Pw.list (Pw.ld rfl inferInstance rfl rfl rfl ?_) | refine Pw.list (Pw.sto rfl rfl inferInstance rfl rfl rfl rfl rfl inferInstance rfl ?_))
  exact Pw.ret_ (x := ()) (.cell rfl (fun w hs => hs.own _ (.head _)) rfl .nil) rfl trivial (fun w h => by trivial)
theorem Ours_ct (a b : List Int) (z : Z2) : Ct Tryz.prog 28 #[rt a b z] (fun _ => True) (fun _ : Unit => rt a b z) Tt (fun _ _ => True) := by
  refine Ct.start Tryz.func28 rfl rfl (slots_of rfl slots1) (fun D w0 => ?_)
  repeat (first | (with_reducible first | refine Pw.seq ?_ | refine Pw.region ?_ | refine Pw.nil ?_ | refine Pw.then_ ?_ | refine Pw.skip ?_ | refine Pw.block ?_ | refine Pw.exit ?_ | refine Pw.inX ?_ | refine Pw.inN ?_ | refine Pw.inR ?_ | refine Pw.thenX ?_ | refine Pw.thenR ?_ | refine Pw.ret ?_) | refine Pw.list (Pw.pure rfl rfl rfl ?_) | refine Pw.inY rfl ?_ | refine Pw.list (Pw.off rfl rfl ?_) | refine Pw.condT rfl ?_ | refine Pw.condF rfl ?_ | refine Pw.list (Pw.box rfl rfl rfl rfl (fun _ => freeHead ?_)) | refine Pw.list (Pw.alloc rfl rfl rfl rfl rfl (fun _ => ?_)) | refine Pw.list (Pw.build rfl rfl rfl rfl ?_) | refine Pw.list (Pw.ld rfl inferInstance rfl rfl rfl ?_) | refine Pw.list (Pw.sto rfl rfl inferInstance rfl rfl rfl rfl rfl inferInstance rfl ?_))
  exact Pw.ret_ (x := ()) (.cell rfl (fun w hs => hs.own _ (.head _)) rfl .nil) rfl trivial (fun w h => by trivial)
theorem rat_Same_ct (a b : List Int) (y z : Z2) (ha : Fm a) (hb : Fm b) (la : a.length < 1048576) (lb : b.length < 1048576) :
    Ct Tryz.prog 9 #[rt a b y, rt a b z] (fun W => R2 a b y W ∧ R2 a b z W) (fun _ : Unit => .bool true) Tt (fun _ _ => True) := by
  refine Ct.start Tryz.func9 rfl rfl (slots_of rfl slots2) (fun D w0 => Pw.facts two2 ?_)
  repeat (first | (with_reducible first | refine Pw.seq ?_ | refine Pw.region ?_ | refine Pw.nil ?_ | refine Pw.then_ ?_ | refine Pw.skip ?_ | refine Pw.block ?_ | refine Pw.exit ?_ | refine Pw.inX ?_ | refine Pw.inN ?_ | refine Pw.inR ?_ | refine Pw.thenX ?_ | refine Pw.thenR ?_ | refine Pw.ret ?_) | refine Pw.list (Pw.pure rfl rfl rfl ?_) | refine Pw.inY rfl ?_ | refine Pw.list (Pw.off rfl rfl ?_) | refine Pw.condT rfl ?_ | refine Pw.condF rfl ?_ | refine Pw.list (Pw.box rfl rfl rfl rfl (fun _ => freeHead ?_)) | refine Pw.list (Pw.alloc rfl rfl rfl rfl rfl (fun _ => ?_)) | refine Pw.list (Pw.build rfl rfl rfl rfl ?_) | refine Pw.list (Pw.ld rfl inferInstance rfl rfl rfl ?_) | refine Pw.list (Pw.sto rfl rfl inferInstance rfl rfl rfl rfl rfl inferInstance rfl ?_))
  have hs := SameRatio_ct a b a b y z ha hb ha hb la lb la lb
  rw [decide_eq_true rfl, decide_eq_true rfl] at hs
  refine Pw.drawnG mixed rfl rfl ?_
  refine Pw.takeF 0 (nb 5 1) rfl rfl inferInstance rfl rfl rfl (by kernel_rfl) np sf ?_
  refine Pw.takeF 2 (nb 5 5) rfl rfl inferInstance rfl rfl rfl (by kernel_rfl) np sf ?_
  refine Pw.one 1 (nb 5 7) rfl (by kernel_rfl) ?_
  refine Pw.call (Ours_ct a b y) rfl rfl rfl (by kernel_rfl) rfl rfl (fun w h => trivial) ?_
  intro _ _
  refine Pw.held sf ?_
  refine Pw.one 3 (nb 5 15) rfl (by kernel_rfl) ?_
  refine Pw.call hs rfl rfl rfl (by kernel_rfl) rfl rfl (fun w h => ⟨(by first | exact fact3 h | exact fact3 (allTail h) | exact fact2 h), (by first | exact fact3 (allTail h) | exact fact3 h)⟩) ?_
  intro _ _
  refine Pw.held sf ?_
  refine Pw.takeP 4 (nb 5 31) rfl rfl rfl rfl (by kernel_rfl) np sf ?_
  refine Pw.done (by kernel_rfl) ?_
  skip
  repeat (first | (with_reducible first | refine Pw.seq ?_ | refine Pw.region ?_ | refine Pw.nil ?_ | refine Pw.then_ ?_ | refine Pw.skip ?_ | refine Pw.block ?_ | refine Pw.exit ?_ | refine Pw.inX ?_ | refine Pw.inN ?_ | refine Pw.inR ?_ | refine Pw.thenX ?_ | refine Pw.thenR ?_ | refine Pw.ret ?_) | refine Pw.list (Pw.pure rfl rfl rfl ?_) | refine Pw.inY rfl ?_ | refine Pw.list (Pw.off rfl rfl ?_) | refine Pw.condT rfl ?_ | refine Pw.condF rfl ?_)
  exact Pw.ret_ (x := ()) (.tmp rfl .nil) rfl trivial (fun w h => by trivial)
end Go.Proofs.Wk
/- The law RatioProducts walked. -/
namespace Go.Proofs.Wk
open Go.RowKit
set_option maxRecDepth 100000
set_option maxHeartbeats 4000000
attribute [local irreducible] Pw OpG
set_option linter.unusedVariables false
set_option linter.unusedSimpArgs false
end Go.Proofs.Wk
/- Walks of the reference's fractions: comparing, adding, subtracting, the lesser one. -/
namespace Go.Proofs.Wk
open Go.RowKit
set_option maxRecDepth 100000
set_option maxHeartbeats 4000000
attribute [local irreducible] Pw OpG
set_option linter.unusedVariables false
set_option linter.unusedSimpArgs false
theorem CmpRatio_ct (a b c d : List Int) (y z : Z2) (ha : Lm a) (hb : Lm b) (hc : Lm c) (hd : Lm d) (la : a.length < 1048576) (lb : b.length < 1048576) (lc : c.length < 1048576) (ld : d.length < 1048576) :
    Ct Tryz.prog 23 #[rt a b y, rt c d z] (fun W => R2 a b y W ∧ R2 c d z W) (fun _ : Unit => .int .i64 (rcmpS a b c d)) Tt (fun _ _ => True) := by
  refine Ct.start Tryz.func23 rfl rfl (slots_of rfl slots2) (fun D w0 => Pw.facts two2 ?_)
  have key := @rcmpS_eq a b c d ha hb hc hd
  repeat (first | (with_reducible first | refine Pw.seq ?_ | refine Pw.region ?_ | refine Pw.nil ?_ | refine Pw.then_ ?_ | refine Pw.skip ?_ | refine Pw.block ?_ | refine Pw.exit ?_ | refine Pw.inX ?_ | refine Pw.inN ?_ | refine Pw.inR ?_ | refine Pw.thenX ?_ | refine Pw.thenR ?_ | refine Pw.ret ?_) | refine Pw.list (Pw.pure rfl rfl rfl ?_) | refine Pw.inY rfl ?_ | refine Pw.list (Pw.off rfl rfl ?_) | refine Pw.condT rfl ?_ | refine Pw.condF rfl ?_ | refine Pw.list (Pw.box rfl rfl rfl rfl (fun _ => freeHead ?_)) | refine Pw.list (Pw.alloc rfl rfl rfl rfl rfl (fun _ => ?_)) | refine Pw.list (Pw.build rfl rfl rfl rfl ?_) | refine Pw.list (Pw.ld rfl inferInstance rfl rfl rfl ?_) | refine Pw.list (Pw.sto rfl rfl inferInstance rfl rfl rfl rfl rfl inferInstance rfl ?_))
  refine Pw.list (Pw.call (FormedRatio_ct a b y ha hb la lb) rfl rfl rfl (by kernel_rfl) rfl rfl (fun w h => (hv w h)) ?_)
  intro _ _
  cases hf : formedR a b
  · rw [show rcmpS a b c d = 0 by unfold rcmpS; rw [if_neg (by simp [hf])]]
    repeat (first | (with_reducible first | refine Pw.seq ?_ | refine Pw.region ?_ | refine Pw.nil ?_ | refine Pw.then_ ?_ | refine Pw.skip ?_ | refine Pw.block ?_ | refine Pw.exit ?_ | refine Pw.inX ?_ | refine Pw.inN ?_ | refine Pw.inR ?_ | refine Pw.thenX ?_ | refine Pw.thenR ?_ | refine Pw.ret ?_) | refine Pw.list (Pw.pure rfl rfl rfl ?_) | refine Pw.inY rfl ?_ | refine Pw.list (Pw.off rfl rfl ?_) | refine Pw.condT rfl ?_ | refine Pw.condF rfl ?_ | refine Pw.list (Pw.box rfl rfl rfl rfl (fun _ => freeHead ?_)) | refine Pw.list (Pw.alloc rfl rfl rfl rfl rfl (fun _ => ?_)) | refine Pw.list (Pw.build rfl rfl rfl rfl ?_) | refine Pw.list (Pw.ld rfl inferInstance rfl rfl rfl ?_) | refine Pw.list (Pw.sto rfl rfl inferInstance rfl rfl rfl rfl rfl inferInstance rfl ?_))
    exact Pw.ret_ (x := ()) (.tmp rfl .nil) rfl trivial (fun w h => by trivial)
  repeat (first | (with_reducible first | refine Pw.seq ?_ | refine Pw.region ?_ | refine Pw.nil ?_ | refine Pw.then_ ?_ | refine Pw.skip ?_ | refine Pw.block ?_ | refine Pw.exit ?_ | refine Pw.inX ?_ | refine Pw.inN ?_ | refine Pw.inR ?_ | refine Pw.thenX ?_ | refine Pw.thenR ?_ | refine Pw.ret ?_) | refine Pw.list (Pw.pure rfl rfl rfl ?_) | refine Pw.inY rfl ?_ | refine Pw.list (Pw.off rfl rfl ?_) | refine Pw.condT rfl ?_ | refine Pw.condF rfl ?_ | refine Pw.list (Pw.box rfl rfl rfl rfl (fun _ => freeHead ?_)) | refine Pw.list (Pw.alloc rfl rfl rfl rfl rfl (fun _ => ?_)) | refine Pw.list (Pw.build rfl rfl rfl rfl ?_) | refine Pw.list (Pw.ld rfl inferInstance rfl rfl rfl ?_) | refine Pw.list (Pw.sto rfl rfl inferInstance rfl rfl rfl rfl rfl inferInstance rfl ?_))
  refine Pw.list (Pw.call (FormedRatio_ct c d z hc hd lc ld) rfl rfl rfl (by kernel_rfl) rfl rfl (fun w h => (hv w h)) ?_)
  intro _ _
  cases hg : formedR c d
  · rw [show rcmpS a b c d = 0 by unfold rcmpS; rw [if_neg (by simp [hg])]]
    repeat (first | (with_reducible first | refine Pw.seq ?_ | refine Pw.region ?_ | refine Pw.nil ?_ | refine Pw.then_ ?_ | refine Pw.skip ?_ | refine Pw.block ?_ | refine Pw.exit ?_ | refine Pw.inX ?_ | refine Pw.inN ?_ | refine Pw.inR ?_ | refine Pw.thenX ?_ | refine Pw.thenR ?_ | refine Pw.ret ?_) | refine Pw.list (Pw.pure rfl rfl rfl ?_) | refine Pw.inY rfl ?_ | refine Pw.list (Pw.off rfl rfl ?_) | refine Pw.condT rfl ?_ | refine Pw.condF rfl ?_ | refine Pw.list (Pw.box rfl rfl rfl rfl (fun _ => freeHead ?_)) | refine Pw.list (Pw.alloc rfl rfl rfl rfl rfl (fun _ => ?_)) | refine Pw.list (Pw.build rfl rfl rfl rfl ?_) | refine Pw.list (Pw.ld rfl inferInstance rfl rfl rfl ?_) | refine Pw.list (Pw.sto rfl rfl inferInstance rfl rfl rfl rfl rfl inferInstance rfl ?_))
    exact Pw.ret_ (x := ()) (.tmp rfl .nil) rfl trivial (fun w h => by trivial)
  rw [key hf hg]
  have p1 := Int.mul_nonneg (val_nonneg ha) (val_nonneg hd)
  have p2 := Int.mul_nonneg (val_nonneg hc) (val_nonneg hb)
  have hx := cross_ct a b c d y z ha hb hc hd la lb lc ld
  unfold crossS at hx
  repeat (first | (with_reducible first | refine Pw.seq ?_ | refine Pw.region ?_ | refine Pw.nil ?_ | refine Pw.then_ ?_ | refine Pw.skip ?_ | refine Pw.block ?_ | refine Pw.exit ?_ | refine Pw.inX ?_ | refine Pw.inN ?_ | refine Pw.inR ?_ | refine Pw.thenX ?_ | refine Pw.thenR ?_ | refine Pw.ret ?_) | refine Pw.list (Pw.pure rfl rfl rfl ?_) | refine Pw.inY rfl ?_ | refine Pw.list (Pw.off rfl rfl ?_) | refine Pw.condT rfl ?_ | refine Pw.condF rfl ?_ | refine Pw.list (Pw.box rfl rfl rfl rfl (fun _ => freeHead ?_)) | refine Pw.list (Pw.alloc rfl rfl rfl rfl rfl (fun _ => ?_)) | refine Pw.list (Pw.build rfl rfl rfl rfl ?_) | refine Pw.list (Pw.ld rfl inferInstance rfl rfl rfl ?_) | refine Pw.list (Pw.sto rfl rfl inferInstance rfl rfl rfl rfl rfl inferInstance rfl ?_))
  by_cases q : (natL (val a * val d)).length ≤ 400 ∧ (natL (val c * val b)).length ≤ 400
  · rw [if_pos q] at hx ⊢
    refine Pw.list (Pw.call hx rfl rfl rfl (by kernel_rfl) rfl rfl (fun w h => ⟨(hv w h), (hv w h)⟩) ?_)
    intro z1 _
    repeat (first | (with_reducible first | refine Pw.seq ?_ | refine Pw.region ?_ | refine Pw.nil ?_ | refine Pw.then_ ?_ | refine Pw.skip ?_ | refine Pw.block ?_ | refine Pw.exit ?_ | refine Pw.inX ?_ | refine Pw.inN ?_ | refine Pw.inR ?_ | refine Pw.thenX ?_ | refine Pw.thenR ?_ | refine Pw.ret ?_) | refine Pw.list (Pw.pure rfl rfl rfl ?_) | refine Pw.inY rfl ?_ | refine Pw.list (Pw.off rfl rfl ?_) | refine Pw.condT rfl ?_ | refine Pw.condF rfl ?_ | refine Pw.list (Pw.box rfl rfl rfl rfl (fun _ => freeHead ?_)) | refine Pw.list (Pw.alloc rfl rfl rfl rfl rfl (fun _ => ?_)) | refine Pw.list (Pw.build rfl rfl rfl rfl ?_) | refine Pw.list (Pw.ld rfl inferInstance rfl rfl rfl ?_) | refine Pw.list (Pw.sto rfl rfl inferInstance rfl rfl rfl rfl rfl inferInstance rfl ?_))
    have hc1 := rcmp_ct (natL (val a * val d)) (natL (val c * val b)) z1.1 z1.2 (natL_fm _) (natL_fm _) (by omega) (by omega)
    rw [val_natL p1, val_natL p2] at hc1
    refine Pw.list (Pw.call hc1 rfl rfl rfl (by kernel_rfl) rfl rfl (fun w h => ⟨(hv w h), (hv w h)⟩) ?_)
    intro _ _
    repeat (first | (with_reducible first | refine Pw.seq ?_ | refine Pw.region ?_ | refine Pw.nil ?_ | refine Pw.then_ ?_ | refine Pw.skip ?_ | refine Pw.block ?_ | refine Pw.exit ?_ | refine Pw.inX ?_ | refine Pw.inN ?_ | refine Pw.inR ?_ | refine Pw.thenX ?_ | refine Pw.thenR ?_ | refine Pw.ret ?_) | refine Pw.list (Pw.pure rfl rfl rfl ?_) | refine Pw.inY rfl ?_ | refine Pw.list (Pw.off rfl rfl ?_) | refine Pw.condT rfl ?_ | refine Pw.condF rfl ?_ | refine Pw.list (Pw.box rfl rfl rfl rfl (fun _ => freeHead ?_)) | refine Pw.list (Pw.alloc rfl rfl rfl rfl rfl (fun _ => ?_)) | refine Pw.list (Pw.build rfl rfl rfl rfl ?_) | refine Pw.list (Pw.ld rfl inferInstance rfl rfl rfl ?_) | refine Pw.list (Pw.sto rfl rfl inferInstance rfl rfl rfl rfl rfl inferInstance rfl ?_))
    exact Pw.ret_ (x := ()) (.tmp rfl .nil) rfl trivial (fun w h => by trivial)
  · rw [if_neg q] at hx ⊢
    refine Pw.list (Pw.call hx rfl rfl rfl (by kernel_rfl) rfl rfl (fun w h => ⟨(hv w h), (hv w h)⟩) ?_)
    intro z1 _
    repeat (first | (with_reducible first | refine Pw.seq ?_ | refine Pw.region ?_ | refine Pw.nil ?_ | refine Pw.then_ ?_ | refine Pw.skip ?_ | refine Pw.block ?_ | refine Pw.exit ?_ | refine Pw.inX ?_ | refine Pw.inN ?_ | refine Pw.inR ?_ | refine Pw.thenX ?_ | refine Pw.thenR ?_ | refine Pw.ret ?_) | refine Pw.list (Pw.pure rfl rfl rfl ?_) | refine Pw.inY rfl ?_ | refine Pw.list (Pw.off rfl rfl ?_) | refine Pw.condT rfl ?_ | refine Pw.condF rfl ?_ | refine Pw.list (Pw.box rfl rfl rfl rfl (fun _ => freeHead ?_)) | refine Pw.list (Pw.alloc rfl rfl rfl rfl rfl (fun _ => ?_)) | refine Pw.list (Pw.build rfl rfl rfl rfl ?_) | refine Pw.list (Pw.ld rfl inferInstance rfl rfl rfl ?_) | refine Pw.list (Pw.sto rfl rfl inferInstance rfl rfl rfl rfl rfl inferInstance rfl ?_))
    exact Pw.ret_ (x := ()) (.tmp rfl .nil) rfl trivial (fun w h => by trivial)
end Go.Proofs.Wk
/- The law RatioSums walked. -/
namespace Go.Proofs.Wk
open Go.RowKit
set_option maxRecDepth 100000
set_option maxHeartbeats 4000000
attribute [local irreducible] Pw OpG
set_option linter.unusedVariables false
set_option linter.unusedSimpArgs false
end Go.Proofs.Wk
/- Snapshots as data: what the walks of layer 10 say of them. -/
namespace Go.Proofs.Wk
open Go.RowKit
set_option linter.unusedVariables false
set_option linter.unusedSimpArgs false
structure Vtr where
  id : Int
  st : Int
  pk : List Int
  z : Option Addr × Nat
abbrev gL1 (s : Gr) (cells : List Value) (e : TypeId) : List Blk := gL s cells e ++ []
structure Sn where
  vs : List Vtr
  zv : Option Addr × Nat
  cs : List Int
  zc : Option Addr × Nat
theorem get_at {α : Type} {l : List α} {i : Nat} (h : i < l.length) : ∃ x, l[i]? = some x ∧ x ∈ l := ⟨l[i], List.getElem?_eq_getElem h, List.getElem_mem h⟩
/-! ### Rising lists -/
theorem top63 {n : Nat} (h : n ≤ maxLen) : n ≤ 9223372036854775807 := by simpa [maxLen] using h
theorem i64s {i n : Nat} (h : i < n) (hn : n ≤ 9223372036854775807) : wrap64 ((i : Int) + 1) = ((i + 1 : Nat) : Int) := by unfold wrap64; omega
/-! ### Formed snapshots -/
theorem take_snoc {α : Type} {l : List α} {i : Nat} {x : α} (h : l[i]? = some x) : l.take (i + 1) = l.take i ++ [x] := by
  rw [List.take_add_one, h]; rfl
end Go.Proofs.Wk
/- Shares: plain facts of what members are given. -/
namespace Go.Proofs.Wk
open Go.RowKit
set_option linter.unusedVariables false
set_option linter.unusedSimpArgs false
structure Shr where
  v : Int
  c : Int
  a : List Int
  b : List Int
  z : Z2
structure ShrW (s : Shr) : Prop where
  a : Lm s.a
  b : Lm s.b
structure Rt where
  a : List Int
  b : List Int
  z : Z2
def encR (r : Rt) : List Value := [sl r.a r.z.1, sl r.b r.z.2]
def heldR (r : Rt) (W : World) : Prop := R2 r.a r.b r.z W
abbrev RS (l : List Rt) (x : Option Addr × Nat) : World → Prop := Rows (RR encR heldR) 2 l x.1 x.2
abbrev rsV (l : List Rt) (x : Option Addr × Nat) : Value := .slice x.1 l.length x.2
def cellsR (l : List Rt) : List Value := l.flatMap encR
theorem encR_one (s : Rt) : ∀ u ∈ encR s, u.oneCell' = true := by
  intro u hu
  unfold encR at hu
  simp only [List.mem_cons, List.not_mem_nil, or_false] at hu
  rcases hu with rfl | rfl <;> rfl
abbrev R3t := List Int × List Int × Int
structure R3ok (t : R3t) : Prop where
  a : Fm t.1
  b : Fm t.2.1
  la : t.1.length < 1048576
  lb : t.2.1.length < 1048576
end Go.Proofs.Wk
/- Walks of layer 10 (graph): rising, money.Add. -/
namespace Go.Proofs.Wk
open Go.RowKit
set_option maxRecDepth 100000
attribute [local irreducible] Pw OpG
set_option linter.unusedVariables false
set_option linter.unusedSimpArgs false
end Go.Proofs.Wk
/- Walks of layer 10 (graph): Formed. -/
namespace Go.Proofs.Wk
open Go.RowKit
set_option maxRecDepth 100000
set_option maxHeartbeats 1000000
attribute [local irreducible] Pw OpG
set_option linter.unusedVariables false
set_option linter.unusedSimpArgs false
end Go.Proofs.Wk
/- Walks of layer 10 (graph): finding, approving. -/
namespace Go.Proofs.Wk
open Go.RowKit
set_option maxRecDepth 100000
set_option maxHeartbeats 1000000
attribute [local irreducible] Pw OpG
set_option linter.unusedVariables false
set_option linter.unusedSimpArgs false
theorem below_snoc {α : Type} {l : List α} {p : α → Bool} {i : Nat} {x : α} (h : ∀ j, j < i → ∀ y, l[j]? = some y → p y = false) (hx : l[i]? = some x) (hp : p x = false) : ∀ j, j < i + 1 → ∀ y, l[j]? = some y → p y = false := fun j hj y hy => by
  rcases Nat.lt_or_ge j i with h' | h'
  · exact h j h' y hy
  · obtain rfl : j = i := by omega
    rw [hx] at hy; cases hy; exact hp
theorem below_all {α : Type} {l : List α} {p : α → Bool} {i : Nat} (h : ∀ j, j < i → ∀ y, l[j]? = some y → p y = false) (hi : l.length ≤ i) : ∀ (j : Nat) (y : α), l[j]? = some y → p y = false := fun j y hy => h j (Nat.lt_of_lt_of_le (List.getElem?_eq_some_iff.1 hy).1 hi) y hy
end Go.Proofs.Wk
/- Shares: helpers walked. -/
namespace Go.Proofs.Wk
open Go.RowKit
set_option maxRecDepth 100000
set_option maxHeartbeats 1000000
attribute [local irreducible] Pw OpG
set_option linter.unusedVariables false
set_option linter.unusedSimpArgs false
theorem ofN1_len : (ofN 1).length ≠ 0 := fun h => by have := (ofN_zero (n := 1) (by omega) (by omega)).1 h; omega
end Go.Proofs.Wk
/- Shares: phragmen.Supports walked. -/
namespace Go.Proofs.Wk
open Go.RowKit
set_option maxRecDepth 100000
set_option maxHeartbeats 2000000
attribute [local irreducible] Pw OpG
set_option linter.unusedVariables false
set_option linter.unusedSimpArgs false
abbrev AllR (l : List Rt) (W : World) : Prop := ∀ r ∈ l, heldR r W
abbrev gL3 (q : Gr) (c : List Value) (t : TypeId) (b : Blk) : List Blk := b :: gL1 q c t
theorem cellsR_snoc (l : List Rt) (r : Rt) : cellsR (l ++ [r]) = cellsR l ++ encR r := by unfold cellsR; simp
end Go.Proofs.Wk
/- Shares: psephoslaw11.Few, Theirs; the document's Supports. -/
namespace Go.Proofs.Wk
open Go.RowKit
set_option maxRecDepth 100000
set_option maxHeartbeats 2000000
attribute [local irreducible] Pw OpG
set_option linter.unusedVariables false
set_option linter.unusedSimpArgs false
end Go.Proofs.Wk
/- Shares: the document's Supports walked. -/
namespace Go.Proofs.Wk
open Go.RowKit
set_option maxRecDepth 100000
set_option maxHeartbeats 4000000
attribute [local irreducible] Pw OpG
set_option linter.unusedVariables false
set_option linter.unusedSimpArgs false
end Go.Proofs.Wk
/- Weights made whole: helpers walked. -/
namespace Go.Proofs.Wk
open Go.RowKit
set_option maxRecDepth 100000
set_option maxHeartbeats 1000000
attribute [local irreducible] Pw OpG
set_option linter.unusedVariables false
set_option linter.unusedSimpArgs false
theorem IndexR_ct (l : List Rt) (x : Option Addr × Nat) (f : FuncId) (p : Rt → Bool) (hf : ∀ v ∈ l, Ct Tryz.prog f #[rt v.a v.b v.z] (heldR v) (fun _ : Unit => .bool (p v)) Tt (fun _ _ => True)) (hcb : callB Tryz.prog f = true) :
    Ct Tryz.prog 33 #[rsV l x, .func (.func f) #[] #[]] (RS l x) (fun _ : Unit => .int .i64 (ixI p l)) Tt (fun _ _ => True) := by
  obtain ⟨A, c⟩ := x
  refine Ct.start Tryz.func33 rfl rfl (slots_of rfl slots2) (fun D w0 => ?_)
  refine Pw.use (p := l.length ≤ maxLen) (fun w h => (fact0 h).top) (fun htop => ?_)
  have htop := top63 htop
  repeat (first | (with_reducible first | refine Pw.seq ?_ | refine Pw.region ?_ | refine Pw.nil ?_ | refine Pw.then_ ?_ | refine Pw.skip ?_ | refine Pw.block ?_ | refine Pw.exit ?_ | refine Pw.inX ?_ | refine Pw.inN ?_ | refine Pw.inR ?_ | refine Pw.thenX ?_ | refine Pw.thenR ?_ | refine Pw.ret ?_) | refine Pw.list (Pw.pure rfl rfl rfl ?_) | refine Pw.inY rfl ?_ | refine Pw.list (Pw.off rfl rfl ?_) | refine Pw.condT rfl ?_ | refine Pw.condF rfl ?_)
  refine Pw.loopJ (σ := Nat) (fun i => i ≤ l.length ∧ ∀ j, j < i → ∀ y, l[j]? = some y → p y = false) (fun i => ⟨[(0, .slice A l.length c), (1, .func (.func f) #[] #[]), (7, .int .i64 l.length), (8, .int .i64 i)], [], [RS l (A, c)]⟩) (fun i => l.length - i) 0 ⟨Nat.zero_le _, fun j hj => absurd hj (Nat.not_lt_zero j)⟩ (Pw.enter ⟨rfl, rfl, rfl, rfl, trivial⟩ (fun _ h => h)) ?_
  rintro i ⟨hi, hj⟩
  dsimp only at hi hj ⊢
  repeat (first | (with_reducible first | refine Pw.seq ?_ | refine Pw.region ?_ | refine Pw.nil ?_ | refine Pw.then_ ?_ | refine Pw.skip ?_ | refine Pw.block ?_ | refine Pw.exit ?_ | refine Pw.inX ?_ | refine Pw.inN ?_ | refine Pw.inR ?_ | refine Pw.thenX ?_ | refine Pw.thenR ?_ | refine Pw.ret ?_) | refine Pw.list (Pw.pure rfl rfl rfl ?_) | refine Pw.inY rfl ?_ | refine Pw.list (Pw.off rfl rfl ?_) | refine Pw.condT rfl ?_ | refine Pw.condF rfl ?_)
  refine Pw.condD rfl (fun c3 => ?_) (fun c3 => ?_)
  · obtain ⟨v, hvi, hm⟩ := get_at (show i < l.length by omega)
    repeat (first | (with_reducible first | refine Pw.seq ?_ | refine Pw.region ?_ | refine Pw.nil ?_ | refine Pw.then_ ?_ | refine Pw.skip ?_ | refine Pw.block ?_ | refine Pw.exit ?_ | refine Pw.inX ?_ | refine Pw.inN ?_ | refine Pw.inR ?_ | refine Pw.thenX ?_ | refine Pw.thenR ?_ | refine Pw.ret ?_) | refine Pw.list (Pw.pure rfl rfl rfl ?_) | refine Pw.inY rfl ?_ | refine Pw.list (Pw.off rfl rfl ?_) | refine Pw.condT rfl ?_ | refine Pw.condF rfl ?_)
    refine Pw.list (Pw.index rfl rfl rfl rfl (Int.natCast_nonneg i) c3 (fun w h => (fact0 h).has (Int.natCast_nonneg i) c3) rfl rfl ?_)
    rintro ad rfl
    refine Pw.list (Pw.loadR v rfl inferInstance rfl (by rw [Int.toNat_natCast]; exact hvi) (by kernel_rfl) rfl rfl ?_)
    refine Pw.re (d := 15) (v' := rt v.a v.b v.z) rfl rfl ?_
    repeat (first | (with_reducible first | refine Pw.seq ?_ | refine Pw.region ?_ | refine Pw.nil ?_ | refine Pw.then_ ?_ | refine Pw.skip ?_ | refine Pw.block ?_ | refine Pw.exit ?_ | refine Pw.inX ?_ | refine Pw.inN ?_ | refine Pw.inR ?_ | refine Pw.thenX ?_ | refine Pw.thenR ?_ | refine Pw.ret ?_) | refine Pw.list (Pw.pure rfl rfl rfl ?_) | refine Pw.inY rfl ?_ | refine Pw.list (Pw.off rfl rfl ?_) | refine Pw.condT rfl ?_ | refine Pw.condF rfl ?_)
    refine Pw.list (Pw.call (hf v hm) rfl rfl rfl hcb rfl rfl (fun w h => fact0 h) ?_)
    intro _ _
    cases hp : p v
    · repeat (first | (with_reducible first | refine Pw.seq ?_ | refine Pw.region ?_ | refine Pw.nil ?_ | refine Pw.then_ ?_ | refine Pw.skip ?_ | refine Pw.block ?_ | refine Pw.exit ?_ | refine Pw.inX ?_ | refine Pw.inN ?_ | refine Pw.inR ?_ | refine Pw.thenX ?_ | refine Pw.thenR ?_ | refine Pw.ret ?_) | refine Pw.list (Pw.pure rfl rfl rfl ?_) | refine Pw.inY rfl ?_ | refine Pw.list (Pw.off rfl rfl ?_) | refine Pw.condT rfl ?_ | refine Pw.condF rfl ?_)
      refine Pw.re (d := 8) (v' := .int .i64 ((i + 1 : Nat) : Int)) rfl (congrArg (Value.int .i64) (i64s (by omega) htop)) ?_
      exact Pw.again (i + 1) ⟨by omega, below_snoc hj hvi hp⟩ (by show l.length - (i + 1) < l.length - i; omega) ⟨rfl, rfl, rfl, rfl, trivial⟩ rfl (fun w h => allCons (fact2 h) allNil)
    · repeat (first | (with_reducible first | refine Pw.seq ?_ | refine Pw.region ?_ | refine Pw.nil ?_ | refine Pw.then_ ?_ | refine Pw.skip ?_ | refine Pw.block ?_ | refine Pw.exit ?_ | refine Pw.inX ?_ | refine Pw.inN ?_ | refine Pw.inR ?_ | refine Pw.thenX ?_ | refine Pw.thenR ?_ | refine Pw.ret ?_) | refine Pw.list (Pw.pure rfl rfl rfl ?_) | refine Pw.inY rfl ?_ | refine Pw.list (Pw.off rfl rfl ?_) | refine Pw.condT rfl ?_ | refine Pw.condF rfl ?_)
      exact Pw.ret_ (x := ()) (.tmp rfl .nil) (congrArg (Value.int .i64) (ixI_hit hvi hp hj).symm) trivial (fun w h => by trivial)
  · repeat (first | (with_reducible first | refine Pw.seq ?_ | refine Pw.region ?_ | refine Pw.nil ?_ | refine Pw.then_ ?_ | refine Pw.skip ?_ | refine Pw.block ?_ | refine Pw.exit ?_ | refine Pw.inX ?_ | refine Pw.inN ?_ | refine Pw.inR ?_ | refine Pw.thenX ?_ | refine Pw.thenR ?_ | refine Pw.ret ?_) | refine Pw.list (Pw.pure rfl rfl rfl ?_) | refine Pw.inY rfl ?_ | refine Pw.list (Pw.off rfl rfl ?_) | refine Pw.condT rfl ?_ | refine Pw.condF rfl ?_)
    exact Pw.ret_ (x := ()) (.tmp rfl .nil) (congrArg (Value.int .i64) (ixI_none (below_all hj (by omega))).symm) trivial (fun w h => by trivial)
theorem ContainsR_ct (l : List Rt) (x : Option Addr × Nat) (f : FuncId) (p : Rt → Bool) (hf : ∀ v ∈ l, Ct Tryz.prog f #[rt v.a v.b v.z] (heldR v) (fun _ : Unit => .bool (p v)) Tt (fun _ _ => True)) (hcb : callB Tryz.prog f = true) :
    Ct Tryz.prog 12 #[rsV l x, .func (.func f) #[] #[]] (RS l x) (fun _ : Unit => .bool (l.any p)) Tt (fun _ _ => True) := by
  refine Ct.start Tryz.func12 rfl rfl (slots_of rfl slots2) (fun D w0 => ?_)
  repeat (first | (with_reducible first | refine Pw.seq ?_ | refine Pw.region ?_ | refine Pw.nil ?_ | refine Pw.then_ ?_ | refine Pw.skip ?_ | refine Pw.block ?_ | refine Pw.exit ?_ | refine Pw.inX ?_ | refine Pw.inN ?_ | refine Pw.inR ?_ | refine Pw.thenX ?_ | refine Pw.thenR ?_ | refine Pw.ret ?_) | refine Pw.list (Pw.pure rfl rfl rfl ?_) | refine Pw.inY rfl ?_ | refine Pw.list (Pw.off rfl rfl ?_) | refine Pw.condT rfl ?_ | refine Pw.condF rfl ?_)
  refine Pw.list (Pw.call (IndexR_ct l x f p hf hcb) rfl rfl rfl (by kernel_rfl) rfl rfl (fun w h => fact0 h) ?_)
  intro _ _
  repeat (first | (with_reducible first | refine Pw.seq ?_ | refine Pw.region ?_ | refine Pw.nil ?_ | refine Pw.then_ ?_ | refine Pw.skip ?_ | refine Pw.block ?_ | refine Pw.exit ?_ | refine Pw.inX ?_ | refine Pw.inN ?_ | refine Pw.inR ?_ | refine Pw.thenX ?_ | refine Pw.thenR ?_ | refine Pw.ret ?_) | refine Pw.list (Pw.pure rfl rfl rfl ?_) | refine Pw.inY rfl ?_ | refine Pw.list (Pw.off rfl rfl ?_) | refine Pw.condT rfl ?_ | refine Pw.condF rfl ?_)
  exact Pw.ret_ (x := ()) (.tmp rfl .nil) (congrArg Value.bool (by
    rcases ixI_cases p l with ⟨h1, h2⟩ | ⟨i, y, h1, h2, h3, h4⟩
    · rw [h1, decide_eq_false (by omega)]
      rw [List.find?_eq_none] at h2
      symm; rw [List.any_eq_false]; exact fun y hy => h2 y hy
    · rw [h1, decide_eq_true (by omega)]
      symm; rw [List.any_eq_true]; exact ⟨y, List.mem_of_getElem? h2, h3⟩)) trivial (fun w h => by trivial)
structure RtW (r : Rt) : Prop where
  a : Lm r.a
  b : Lm r.b
/-- A weight's place, and its rest. -/
structure On where
  at_ : Int
  a : List Int
  b : List Int
  z : Z2
end Go.Proofs.Wk
/- Weights made whole: the document's difference. -/
namespace Go.Proofs.Wk
open Go.RowKit
set_option maxRecDepth 100000
set_option maxHeartbeats 1000000
attribute [local irreducible] Pw OpG
set_option linter.unusedVariables false
set_option linter.unusedSimpArgs false
def minR (a b c d : List Int) : List Int × List Int := lowS (natL (val a * val d - val c * val b)) (natL (val b * val d))
structure MinOk (a b c d : List Int) : Prop where
  ad : (natL (val a * val d)).length ≤ 400
  cb : (natL (val c * val b)).length ≤ 400
  bd : (natL (val b * val d)).length ≤ 400
  le : val c * val b ≤ val a * val d
  pos : 0 < val b * val d
  n : 0 ≤ val a * val d ∧ 0 ≤ val c * val b
theorem Minus_ct (a b c d : List Int) (y z : Z2) (ha : Lm a) (hb : Lm b) (hc : Lm c) (hd : Lm d) (la : a.length < 1048576) (lb : b.length < 1048576) (lc : c.length < 1048576) (ld : d.length < 1048576) (h : MinOk a b c d) :
    Ct Tryz.prog 53 #[rt a b y, rt c d z] (fun W => R2 a b y W ∧ R2 c d z W) (fun x : Z2 => rt (minR a b c d).1 (minR a b c d).2 x) Tt (fun x => R2 (minR a b c d).1 (minR a b c d).2 x) := by
  obtain ⟨q1, q2, q3, hle, hq, p1, p2⟩ := h
  refine Ct.start Tryz.func53 rfl rfl (slots_of rfl slots2) (fun D w0 => Pw.facts two2 ?_)
  have l1 := natL_len_le (n := (natL (val a * val d)).length) p2 (by have := val_lt_pw (natL_fm (val a * val d)).1; rw [val_natL p1] at this; omega)
  have l2 := natL_len_le (n := (natL (val a * val d)).length) (show 0 ≤ val a * val d - val c * val b by omega) (by have := val_lt_pw (natL_fm (val a * val d)).1; rw [val_natL p1] at this; omega)
  have hs := fun x1 x2 => rsub_ct (natL (val a * val d)) (natL (val c * val b)) x1 x2 (natL_fm _).1 (natL_fm _).1 (by rw [val_natL p1, val_natL p2]; omega) l1 (by omega)
  rw [val_natL p1, val_natL p2] at hs
  have hl := low_len (p := 0) hq q3
  repeat (first | (with_reducible first | refine Pw.seq ?_ | refine Pw.region ?_ | refine Pw.nil ?_ | refine Pw.then_ ?_ | refine Pw.skip ?_ | refine Pw.block ?_ | refine Pw.exit ?_ | refine Pw.inX ?_ | refine Pw.inN ?_ | refine Pw.inR ?_ | refine Pw.thenX ?_ | refine Pw.thenR ?_ | refine Pw.ret ?_) | refine Pw.list (Pw.pure rfl rfl rfl ?_) | refine Pw.inY rfl ?_ | refine Pw.list (Pw.off rfl rfl ?_) | refine Pw.condT rfl ?_ | refine Pw.condF rfl ?_)
  refine Pw.list (Pw.box rfl rfl rfl rfl (fun g2 => freeHead ?_))
  refine Pw.list (Pw.box rfl rfl rfl rfl (fun g3 => freeHead ?_))
  repeat (first | (with_reducible first | refine Pw.seq ?_ | refine Pw.region ?_ | refine Pw.nil ?_ | refine Pw.then_ ?_ | refine Pw.skip ?_ | refine Pw.block ?_ | refine Pw.exit ?_ | refine Pw.inX ?_ | refine Pw.inN ?_ | refine Pw.inR ?_ | refine Pw.thenX ?_ | refine Pw.thenR ?_ | refine Pw.ret ?_) | refine Pw.list (Pw.pure rfl rfl rfl ?_) | refine Pw.inY rfl ?_ | refine Pw.list (Pw.off rfl rfl ?_) | refine Pw.condT rfl ?_ | refine Pw.condF rfl ?_ | refine Pw.list (Pw.box rfl rfl rfl rfl (fun _ => ?_)) | refine Pw.list (Pw.alloc rfl rfl rfl rfl rfl (fun _ => ?_)) | refine Pw.list (Pw.build rfl rfl rfl rfl ?_) | refine Pw.list (Pw.ld rfl inferInstance rfl rfl rfl ?_) | refine Pw.list (Pw.sto rfl rfl inferInstance rfl rfl rfl rfl rfl inferInstance rfl ?_))
  refine Pw.drawnG mixed rfl rfl ?_
  refine Pw.takeP 0 (nb 18 1) rfl rfl rfl rfl (by kernel_rfl) np sf ?_
  refine Pw.takeF 1 (nb 18 3) rfl rfl inferInstance rfl rfl rfl (by kernel_rfl) np sf ?_
  refine Pw.takeP 2 (nb 18 7) rfl rfl rfl rfl (by kernel_rfl) np sf ?_
  refine Pw.takeF 3 (nb 18 15) rfl rfl inferInstance rfl rfl rfl (by kernel_rfl) np sf ?_
  refine Pw.takeP 5 (nb 18 47) rfl rfl rfl rfl (by kernel_rfl) np sf ?_
  refine Pw.takeF 6 (nb 18 111) rfl rfl inferInstance rfl rfl rfl (by kernel_rfl) np sf ?_
  refine Pw.takeP 7 (nb 18 239) rfl rfl rfl rfl (by kernel_rfl) np sf ?_
  refine Pw.takeF 8 (nb 18 495) rfl rfl inferInstance rfl rfl rfl (by kernel_rfl) np sf ?_
  refine Pw.takeP 11 (nb 18 2543) rfl rfl rfl rfl (by kernel_rfl) np sf ?_
  refine Pw.takeF 12 (nb 18 6639) rfl rfl inferInstance rfl rfl rfl (by kernel_rfl) np sf ?_
  refine Pw.takeP 13 (nb 18 14831) rfl rfl rfl rfl (by kernel_rfl) np sf ?_
  refine Pw.takeF 14 (nb 18 31215) rfl rfl inferInstance rfl rfl rfl (by kernel_rfl) np sf ?_
  refine Pw.one 4 (nb 18 31231) rfl (by kernel_rfl) ?_
  refine Pw.call (rmul_ct a d y.1 z.2 ha hd la ld) rfl rfl rfl (by kernel_rfl) rfl rfl (fun w h => ⟨(hv w h), (hv w h)⟩) ?_
  intro z1 _
  refine Pw.held sf ?_
  refine Pw.one 9 (nb 18 31743) rfl (by kernel_rfl) ?_
  refine Pw.call (rmul_ct c b z.1 y.2 hc hb lc lb) rfl rfl rfl (by kernel_rfl) rfl rfl (fun w h => ⟨(hv w h), (hv w h)⟩) ?_
  intro z2 _
  refine Pw.held sf ?_
  refine Pw.one 10 (nb 18 32767) rfl (by kernel_rfl) ?_
  refine Pw.call (hs z1 z2) rfl rfl rfl (by kernel_rfl) rfl rfl (fun w h => ⟨(hv w h), (hv w h)⟩) ?_
  intro z3 _
  refine Pw.held sf ?_
  refine Pw.one 15 (nb 18 65535) rfl (by kernel_rfl) ?_
  refine Pw.call (rmul_ct b d y.2 z.2 hb hd lb ld) rfl rfl rfl (by kernel_rfl) rfl rfl (fun w h => ⟨(hv w h), (hv w h)⟩) ?_
  intro z4 _
  refine Pw.held sf ?_
  refine Pw.one 16 (nb 18 131071) rfl (by kernel_rfl) ?_
  refine Pw.call (lowest_ct (natL (val a * val d - val c * val b)) (natL (val b * val d)) z3 z4 (natL_fm _) (natL_fm _) hl.1 (by omega) hl.2) rfl rfl rfl (by kernel_rfl) rfl rfl (fun w h => ⟨(hv w h), (hv w h)⟩) ?_
  intro z5 _
  refine Pw.held sf ?_
  refine Pw.one 17 (nb 18 262143) rfl (by kernel_rfl) ?_
  refine Pw.sto rfl rfl inferInstance rfl rfl rfl rfl rfl inferInstance rfl ?_
  refine Pw.held sf ?_
  refine Pw.done (by kernel_rfl) ?_
  repeat (first | (with_reducible first | refine Pw.seq ?_ | refine Pw.region ?_ | refine Pw.nil ?_ | refine Pw.then_ ?_ | refine Pw.skip ?_ | refine Pw.block ?_ | refine Pw.exit ?_ | refine Pw.inX ?_ | refine Pw.inN ?_ | refine Pw.inR ?_ | refine Pw.thenX ?_ | refine Pw.thenR ?_ | refine Pw.ret ?_) | refine Pw.list (Pw.pure rfl rfl rfl ?_) | refine Pw.inY rfl ?_ | refine Pw.list (Pw.off rfl rfl ?_) | refine Pw.condT rfl ?_ | refine Pw.condF rfl ?_)
  exact Pw.ret_ (x := z5) (.cell rfl (fun w hs => hs.own _ (.head _)) rfl .nil) rfl trivial (fun w h => fact0 h)
theorem minus_ct (a b c d : List Int) (y z : Z2) (ha : Lm a) (hb : Lm b) (hc : Lm c) (hd : Lm d) (la : a.length < 1048576) (lb : b.length < 1048576) (lc : c.length < 1048576) (ld : d.length < 1048576) (h : MinOk a b c d) :
    Ct Tryz.prog 26 #[rt a b y, rt c d z] (fun W => R2 a b y W ∧ R2 c d z W) (fun x : Z2 => rt (minR a b c d).1 (minR a b c d).2 x) Tt (fun x => R2 (minR a b c d).1 (minR a b c d).2 x) := by
  refine Ct.start Tryz.func26 rfl rfl (slots_of rfl slots2) (fun D w0 => Pw.facts two2 ?_)
  repeat (first | (with_reducible first | refine Pw.seq ?_ | refine Pw.region ?_ | refine Pw.nil ?_ | refine Pw.then_ ?_ | refine Pw.skip ?_ | refine Pw.block ?_ | refine Pw.exit ?_ | refine Pw.inX ?_ | refine Pw.inN ?_ | refine Pw.inR ?_ | refine Pw.thenX ?_ | refine Pw.thenR ?_ | refine Pw.ret ?_) | refine Pw.list (Pw.pure rfl rfl rfl ?_) | refine Pw.inY rfl ?_ | refine Pw.list (Pw.off rfl rfl ?_) | refine Pw.condT rfl ?_ | refine Pw.condF rfl ?_)
  refine Pw.list (Pw.box rfl rfl rfl rfl (fun g2 => freeHead ?_))
  refine Pw.list (Pw.box rfl rfl rfl rfl (fun g3 => freeHead ?_))
  repeat (first | (with_reducible first | refine Pw.seq ?_ | refine Pw.region ?_ | refine Pw.nil ?_ | refine Pw.then_ ?_ | refine Pw.skip ?_ | refine Pw.block ?_ | refine Pw.exit ?_ | refine Pw.inX ?_ | refine Pw.inN ?_ | refine Pw.inR ?_ | refine Pw.thenX ?_ | refine Pw.thenR ?_ | refine Pw.ret ?_) | refine Pw.list (Pw.pure rfl rfl rfl ?_) | refine Pw.inY rfl ?_ | refine Pw.list (Pw.off rfl rfl ?_) | refine Pw.condT rfl ?_ | refine Pw.condF rfl ?_ | refine Pw.list (Pw.box rfl rfl rfl rfl (fun _ => ?_)) | refine Pw.list (Pw.alloc rfl rfl rfl rfl rfl (fun _ => ?_)) | refine Pw.list (Pw.build rfl rfl rfl rfl ?_) | refine Pw.list (Pw.ld rfl inferInstance rfl rfl rfl ?_) | refine Pw.list (Pw.sto rfl rfl inferInstance rfl rfl rfl rfl rfl inferInstance rfl ?_))
  refine Pw.list (Pw.call (Minus_ct a b c d y z ha hb hc hd la lb lc ld h) rfl rfl rfl (by kernel_rfl) rfl rfl (fun w h => ⟨(hv w h), (hv w h)⟩) ?_)
  intro x _
  repeat (first | (with_reducible first | refine Pw.seq ?_ | refine Pw.region ?_ | refine Pw.nil ?_ | refine Pw.then_ ?_ | refine Pw.skip ?_ | refine Pw.block ?_ | refine Pw.exit ?_ | refine Pw.inX ?_ | refine Pw.inN ?_ | refine Pw.inR ?_ | refine Pw.thenX ?_ | refine Pw.thenR ?_ | refine Pw.ret ?_) | refine Pw.list (Pw.pure rfl rfl rfl ?_) | refine Pw.inY rfl ?_ | refine Pw.list (Pw.off rfl rfl ?_) | refine Pw.condT rfl ?_ | refine Pw.condF rfl ?_ | refine Pw.list (Pw.box rfl rfl rfl rfl (fun _ => ?_)) | refine Pw.list (Pw.alloc rfl rfl rfl rfl rfl (fun _ => ?_)) | refine Pw.list (Pw.build rfl rfl rfl rfl ?_) | refine Pw.list (Pw.ld rfl inferInstance rfl rfl rfl ?_) | refine Pw.list (Pw.sto rfl rfl inferInstance rfl rfl rfl rfl rfl inferInstance rfl ?_))
  exact Pw.ret_ (x := x) (.cell rfl (fun w hs => hs.own _ (.head _)) rfl .nil) rfl trivial (fun w h => fact0 h)
end Go.Proofs.Wk
/- What layer 2 and its reference answer, of rational numbers. -/
namespace Go.Proofs.Wk
open Go.RowKit
set_option maxRecDepth 100000
set_option linter.unusedVariables false
set_option linter.unusedSimpArgs false
abbrev qt (x : Rat) (z : Z2) : Value := rt (qn x) (qd x) z
abbrev QW (x : Rat) (z : Z2) (W : World) : Prop := R2 (qn x) (qd x) z W
section
variable {x y : Rat} {m n : Nat} (hx : Sz m x) (hy : Sz n y) (u v : Z2)
include hx hy
theorem qAdd_ct (h : m + n < 400) : Ct Tryz.prog 42 #[qt x u, qt y v] (fun W => QW x u W ∧ QW y v W) (fun z : Z2 => .tuple #[qt (x + y) z, .int .i64 0]) Tt (fun z => QW (x + y) z) := by
  have h1 := hx.ln; have h2 := hx.ld; have h3 := hy.ln; have h4 := hy.ld
  have hc := rat_Add_ct (qn x) (qd x) (qn y) (qd y) u v (qn_lm x) (qd_lm x) (qn_lm y) (qd_lm y) (by omega) (by omega) (by omega) (by omega)
  rwa [q_add hx hy h] at hc
theorem qSub_ct (h : m + n ≤ 400) (hle : y ≤ x) : Ct Tryz.prog 19 #[qt x u, qt y v] (fun W => QW x u W ∧ QW y v W) (fun z : Z2 => .tuple #[qt (x - y) z, .int .i64 0]) Tt (fun z => QW (x - y) z) := by
  have h1 := hx.ln; have h2 := hx.ld; have h3 := hy.ln; have h4 := hy.ld
  have hc := rat_Sub_ct (qn x) (qd x) (qn y) (qd y) u v (qn_lm x) (qd_lm x) (qn_lm y) (qd_lm y) (by omega) (by omega) (by omega) (by omega)
  rwa [q_sub hx hy h, if_neg (Rat.not_lt.2 hle)] at hc
theorem qSubLt_ct (h : m + n ≤ 400) (hlt : x < y) : Ct Tryz.prog 19 #[qt x u, qt y v] (fun W => QW x u W ∧ QW y v W) (fun z : Z2 => .tuple #[rt [] [] z, .int .i64 3]) Tt (fun z => R2 [] [] z) := by
  have h1 := hx.ln; have h2 := hx.ld; have h3 := hy.ln; have h4 := hy.ld
  have hc := rat_Sub_ct (qn x) (qd x) (qn y) (qd y) u v (qn_lm x) (qd_lm x) (qn_lm y) (qd_lm y) (by omega) (by omega) (by omega) (by omega)
  rwa [q_sub hx hy h, if_pos hlt] at hc
theorem qCmp_ct (h : m + n ≤ 400) : Ct Tryz.prog 17 #[qt x u, qt y v] (fun W => QW x u W ∧ QW y v W) (fun _ : Unit => .int .i64 (cmpQ x y)) Tt (fun _ _ => True) := by
  have h1 := hx.ln; have h2 := hx.ld; have h3 := hy.ln; have h4 := hy.ld
  have hc := rat_Cmp_ct (qn x) (qd x) (qn y) (qd y) u v (qn_lm x) (qd_lm x) (qn_lm y) (qd_lm y) (by omega) (by omega) (by omega) (by omega)
  rwa [q_cmp hx hy h] at hc
theorem qDiv_ct (h : m + n ≤ 400) (h0 : 0 < y) : Ct Tryz.prog 43 #[qt x u, qt y v] (fun W => QW x u W ∧ QW y v W) (fun z : Z2 => .tuple #[qt (x / y) z, .int .i64 0]) Tt (fun z => QW (x / y) z) := by
  have h1 := hx.ln; have h2 := hx.ld; have h3 := hy.ln; have h4 := hy.ld
  have hc := rat_Div_ct (qn x) (qd x) (qn y) (qd y) u v (qn_lm x) (qd_lm x) (qn_lm y) (qd_lm y) (by omega) (by omega) (by omega) (by omega)
  rwa [q_div hx hy h h0] at hc
theorem rqCmp_ct (h : m + n ≤ 400) : Ct Tryz.prog 23 #[qt x u, qt y v] (fun W => QW x u W ∧ QW y v W) (fun _ : Unit => .int .i64 (cmpQ x y)) Tt (fun _ _ => True) := by
  have h1 := hx.ln; have h2 := hx.ld; have h3 := hy.ln; have h4 := hy.ld
  have hc := CmpRatio_ct (qn x) (qd x) (qn y) (qd y) u v (qn_lm x) (qd_lm x) (qn_lm y) (qd_lm y) (by omega) (by omega) (by omega) (by omega)
  rwa [q_cmp hx hy h] at hc
theorem q_minR (hle : y ≤ x) : minR (qn x) (qd x) (qn y) (qd y) = (qn (x - y), qd (x - y)) := by
  have p1 := num_pos hx.p; have p2 := num_pos hy.p; have d1 := den_pos x; have d2 := den_pos y
  have q3 := Int.mul_pos d1 d2
  have hl := (Rat.le_iff y x).1 hle
  unfold minR
  rw [val_qn hx.p, val_qn hy.p, val_qd, val_qd, q_low (by omega) q3]
  rw [show x - y = Rat.divInt (x.num * y.den - y.num * x.den) ((x.den : Int) * (y.den : Int)) by rw [Rat.sub_def', ← Int.natCast_mul, Rat.divInt_ofNat]]
theorem q_minOk (h : m + n ≤ 400) (hle : y ≤ x) : MinOk (qn x) (qd x) (qn y) (qd y) := by
  have p1 := num_pos hx.p; have p2 := num_pos hy.p; have d1 := den_pos x; have d2 := den_pos y
  have b1 := mul_lt_pw p1 hx.n hy.d (by omega)
  have b2 := mul_lt_pw p2 hy.n hx.d (by omega)
  have b3 := mul_lt_pw (show 0 ≤ (x.den : Int) by omega) hx.d hy.d (by omega)
  rw [Nat.add_comm n m] at b2
  have q1 := Int.mul_nonneg p1 (show 0 ≤ (y.den : Int) by omega)
  have q2 := Int.mul_nonneg p2 (show 0 ≤ (x.den : Int) by omega)
  have q3 := Int.mul_pos d1 d2
  have hl := (Rat.le_iff y x).1 hle
  constructor <;> simp only [val_qn hx.p, val_qn hy.p, val_qd]
  · have := natL_len_le q1 b1; omega
  · have := natL_len_le q2 b2; omega
  · have := natL_len_le (by omega) b3; omega
  · exact hl
  · exact q3
  · exact ⟨q1, q2⟩
theorem rqMinus_ct (h : m + n ≤ 400) (hle : y ≤ x) : Ct Tryz.prog 26 #[qt x u, qt y v] (fun W => QW x u W ∧ QW y v W) (fun z : Z2 => qt (x - y) z) Tt (fun z => QW (x - y) z) := by
  have h1 := hx.ln; have h2 := hx.ld; have h3 := hy.ln; have h4 := hy.ld
  have hc := minus_ct (qn x) (qd x) (qn y) (qd y) u v (qn_lm x) (qd_lm x) (qn_lm y) (qd_lm y) (by omega) (by omega) (by omega) (by omega) (q_minOk hx hy h hle)
  rwa [q_minR hx hy hle] at hc
end
theorem qOf_ct {n : Int} (h : 0 ≤ n) (h' : n ≤ 18446744073709551615) : Ct Tryz.prog 10 #[.int .u64 n, .int .u64 1] (fun _ => True) (fun z : Z2 => .tuple #[qt (n : Rat) z, .int .i64 0]) Tt (fun z => QW (n : Rat) z) := by
  have hc := rat_Of_ct n 1
  rwa [q_of1 h h'] at hc
/-- A weight that is formed is a number's fraction. -/
def rq (s : Rt) : Rat := rv s.a s.b
end Go.Proofs.Wk
/- Fractions sorted: the insertion sort walked. -/
namespace Go.Proofs.Wk
open Go.RowKit
set_option maxRecDepth 100000
set_option maxHeartbeats 2000000
attribute [local irreducible] Pw OpG
set_option linter.unusedVariables false
set_option linter.unusedSimpArgs false
def cfR (p q : Rt) : Int := rcmpS p.a p.b q.a q.b
structure RtL (o : Rt) : Prop where
  m : Lm o.a ∧ Lm o.b
  l : o.a.length < 1048576 ∧ o.b.length < 1048576
abbrev rtV (o : Rt) : Value := rt o.a o.b o.z
theorem rcf_ct (p q : Rt) (hp : RtL p) (hq : RtL q) : Ct Tryz.prog 17 #[rtV p, rtV q] (fun W => heldR p W ∧ heldR q W) (fun _ : Unit => .int .i64 (cfR p q)) Tt (fun _ _ => True) :=
  rat_Cmp_ct p.a p.b q.a q.b p.z q.z hp.m.1 hp.m.2 hq.m.1 hq.m.2 hp.l.1 hp.l.2 hq.l.1 hq.l.2
def swapR (l : List Rt) (j : Nat) (x y : Rt) : List Rt := (l.set (j + 1) y).set j x
def sinkR : Nat → List Rt → List Rt
  | 0, l => l
  | j + 1, l => match l[j + 1]?, l[j]? with
    | some x, some y => if cfR x y < 0 then sinkR j (swapR l j x y) else l
    | _, _ => l
def insR (i : Nat) (l : List Rt) : List Rt := (List.range i).foldl (fun l k => sinkR k l) l
theorem insR_succ (i : Nat) (l : List Rt) : insR (i + 1) l = sinkR i (insR i l) := by unfold insR; rw [List.range_succ, List.foldl_append]; rfl
theorem swapR_mem {l : List Rt} {j : Nat} {x y z : Rt} (hx : x ∈ l) (hy : y ∈ l) (hz : z ∈ swapR l j x y) : z ∈ l := by
  unfold swapR at hz
  rcases List.mem_or_eq_of_mem_set hz with h | rfl
  · rcases List.mem_or_eq_of_mem_set h with h | rfl
    · exact h
    · exact hy
  · exact hx
theorem swapR_len (l : List Rt) (j : Nat) (x y : Rt) : (swapR l j x y).length = l.length := by unfold swapR; rw [List.length_set, List.length_set]
theorem encR_len (o : Rt) : (encR o).length = 2 := rfl
def AllR1 (l : List Rt) (W : World) : Prop := ∀ o ∈ l, heldR o W
theorem insertionR_ct (l : List Rt) (ex : List Value) (g c n : Nat) (hw : ∀ o ∈ l, RtL o) (hn : n ≤ l.length) (hl : l.length ≤ 1000) (hn1 : 1 ≤ n) :
    Ct1 Tryz.prog 81 #[.slice (some ⟨g, 0, none⟩) l.length c, .int .i64 0, .int .i64 n, .func (.func 17) #[] #[]] g (row (l.flatMap encR ++ ex) 37) (AllR1 l) (fun _ : Unit => .tuple #[]) Tt (fun _ => row ((insR n l).flatMap encR ++ ex) 37) (fun _ _ => True) := by
  refine Ct1.start Tryz.func81 rfl rfl (slots_of rfl slots4) (fun D w0 hD => ?_)
  repeat (first | (with_reducible first | refine Pw.seq ?_ | refine Pw.region ?_ | refine Pw.nil ?_ | refine Pw.then_ ?_ | refine Pw.skip ?_ | refine Pw.block ?_ | refine Pw.exit ?_ | refine Pw.inX ?_ | refine Pw.inN ?_ | refine Pw.inR ?_ | refine Pw.thenX ?_ | refine Pw.thenR ?_ | refine Pw.ret ?_) | refine Pw.list (Pw.pure rfl rfl rfl ?_) | refine Pw.inY rfl ?_ | refine Pw.list (Pw.off rfl rfl ?_) | refine Pw.condT rfl ?_ | refine Pw.condF rfl ?_ | refine Pw.list (Pw.box rfl rfl rfl rfl (fun _ => ?_)) | refine Pw.list (Pw.alloc rfl rfl rfl rfl rfl (fun _ => ?_)) | refine Pw.list (Pw.build rfl rfl rfl rfl ?_) | refine Pw.list (Pw.ld rfl inferInstance rfl rfl rfl ?_) | refine Pw.list (Pw.sto rfl rfl inferInstance rfl rfl rfl rfl rfl inferInstance rfl ?_))
  refine Pw.re (d := 8) (v' := .int .i64 ((1 : Nat) : Int)) rfl (congrArg (Value.int .i64) (by unfold wrap64; omega)) ?_
  refine Pw.loopJ (σ := Nat × List Rt) (fun t => 1 ≤ t.1 ∧ t.1 ≤ n ∧ t.2 = insR t.1 l ∧ t.2.length = l.length ∧ ∀ o ∈ t.2, o ∈ l) (fun t => ⟨[(0, .slice (some ⟨g, 0, none⟩) l.length c), (1, .int .i64 0), (2, .int .i64 n), (3, .func (.func 17) #[] #[]), (8, .int .i64 t.1)], [⟨g, row (t.2.flatMap encR ++ ex) 37⟩], [AllR1 l]⟩) (fun t => n - t.1) (1, l) ⟨Nat.le_refl _, hn1, rfl, rfl, fun o h => h⟩ (Pw.enter ⟨rfl, rfl, rfl, rfl, rfl, trivial⟩ (fun w h => h)) ?_
  rintro ⟨i, m⟩ ⟨hi1, hi2, hm, hml, hmm⟩
  dsimp only at hi1 hi2 hm hml hmm ⊢
  repeat (first | (with_reducible first | refine Pw.seq ?_ | refine Pw.region ?_ | refine Pw.nil ?_ | refine Pw.then_ ?_ | refine Pw.skip ?_ | refine Pw.block ?_ | refine Pw.exit ?_ | refine Pw.inX ?_ | refine Pw.inN ?_ | refine Pw.inR ?_ | refine Pw.thenX ?_ | refine Pw.thenR ?_ | refine Pw.ret ?_) | refine Pw.list (Pw.pure rfl rfl rfl ?_) | refine Pw.inY rfl ?_ | refine Pw.list (Pw.off rfl rfl ?_) | refine Pw.condT rfl ?_ | refine Pw.condF rfl ?_ | refine Pw.list (Pw.box rfl rfl rfl rfl (fun _ => ?_)) | refine Pw.list (Pw.alloc rfl rfl rfl rfl rfl (fun _ => ?_)) | refine Pw.list (Pw.build rfl rfl rfl rfl ?_) | refine Pw.list (Pw.ld rfl inferInstance rfl rfl rfl ?_) | refine Pw.list (Pw.sto rfl rfl inferInstance rfl rfl rfl rfl rfl inferInstance rfl ?_))
  refine Pw.condD rfl (fun c3 => ?_) (fun c3 => ?_)
  · repeat (first | (with_reducible first | refine Pw.seq ?_ | refine Pw.region ?_ | refine Pw.nil ?_ | refine Pw.then_ ?_ | refine Pw.skip ?_ | refine Pw.block ?_ | refine Pw.exit ?_ | refine Pw.inX ?_ | refine Pw.inN ?_ | refine Pw.inR ?_ | refine Pw.thenX ?_ | refine Pw.thenR ?_ | refine Pw.ret ?_) | refine Pw.list (Pw.pure rfl rfl rfl ?_) | refine Pw.inY rfl ?_ | refine Pw.list (Pw.off rfl rfl ?_) | refine Pw.condT rfl ?_ | refine Pw.condF rfl ?_ | refine Pw.list (Pw.box rfl rfl rfl rfl (fun _ => ?_)) | refine Pw.list (Pw.alloc rfl rfl rfl rfl rfl (fun _ => ?_)) | refine Pw.list (Pw.build rfl rfl rfl rfl ?_) | refine Pw.list (Pw.ld rfl inferInstance rfl rfl rfl ?_) | refine Pw.list (Pw.sto rfl rfl inferInstance rfl rfl rfl rfl rfl inferInstance rfl ?_))
    refine Pw.loopJ (σ := Nat × List Rt) (fun t => t.1 ≤ i ∧ sinkR t.1 t.2 = sinkR i m ∧ t.2.length = l.length ∧ ∀ o ∈ t.2, o ∈ l) (fun t => ⟨[(0, .slice (some ⟨g, 0, none⟩) l.length c), (1, .int .i64 0), (2, .int .i64 n), (3, .func (.func 17) #[] #[]), (8, .int .i64 i), (9, .int .i64 t.1)], [⟨g, row (t.2.flatMap encR ++ ex) 37⟩], [AllR1 l]⟩) (fun t => t.1) (i, m) ⟨Nat.le_refl _, rfl, hml, hmm⟩ (Pw.enter ⟨rfl, rfl, rfl, rfl, rfl, rfl, trivial⟩ (fun w h => h)) ?_
    rintro ⟨j, k⟩ ⟨hj, hk, hkl, hkm⟩
    dsimp only at hj hk hkl hkm ⊢
    repeat (first | (with_reducible first | refine Pw.seq ?_ | refine Pw.region ?_ | refine Pw.nil ?_ | refine Pw.then_ ?_ | refine Pw.skip ?_ | refine Pw.block ?_ | refine Pw.exit ?_ | refine Pw.inX ?_ | refine Pw.inN ?_ | refine Pw.inR ?_ | refine Pw.thenX ?_ | refine Pw.thenR ?_ | refine Pw.ret ?_) | refine Pw.list (Pw.pure rfl rfl rfl ?_) | refine Pw.inY rfl ?_ | refine Pw.list (Pw.off rfl rfl ?_) | refine Pw.condT rfl ?_ | refine Pw.condF rfl ?_ | refine Pw.list (Pw.box rfl rfl rfl rfl (fun _ => ?_)) | refine Pw.list (Pw.alloc rfl rfl rfl rfl rfl (fun _ => ?_)) | refine Pw.list (Pw.build rfl rfl rfl rfl ?_) | refine Pw.list (Pw.ld rfl inferInstance rfl rfl rfl ?_) | refine Pw.list (Pw.sto rfl rfl inferInstance rfl rfl rfl rfl rfl inferInstance rfl ?_))
    rcases Nat.eq_zero_or_pos j with hj0 | hj0
    · subst hj0
      refine Pw.drawnG mixed rfl rfl ?_
      refine Pw.takeP 0 (nb 17 1) rfl rfl rfl rfl (by kernel_rfl) np sf ?_
      refine Pw.takeP 1 (nb 17 3) rfl rfl rfl rfl (by kernel_rfl) np sf ?_
      refine Pw.takeP 2 (nb 17 7) rfl rfl rfl rfl (by kernel_rfl) np sf ?_
      refine Pw.takeP 3 (nb 17 15) rfl rfl rfl rfl (by kernel_rfl) np sf ?_
      refine Pw.re (d := 21) (v' := .bool false) rfl (congrArg Value.bool (decide_eq_false (by omega))) ?_
      refine Pw.takeO 4 (nb 17 31) rfl rfl rfl (by kernel_rfl) np sf ?_
      refine Pw.takeO 5 (nb 17 63) rfl rfl rfl (by kernel_rfl) np sf ?_
      refine Pw.takeO 6 (nb 17 127) rfl rfl rfl (by kernel_rfl) np sf ?_
      refine Pw.takeO 7 (nb 17 255) rfl rfl rfl (by kernel_rfl) np sf ?_
      refine Pw.takeO 8 (nb 17 511) rfl rfl rfl (by kernel_rfl) np sf ?_
      refine Pw.takeO 9 (nb 17 1023) rfl rfl rfl (by kernel_rfl) np sf ?_
      refine Pw.takeO 10 (nb 17 2047) rfl rfl rfl (by kernel_rfl) np sf ?_
      refine Pw.takeO 11 (nb 17 4095) rfl rfl rfl (by kernel_rfl) np sf ?_
      refine Pw.takeO 12 (nb 17 8191) rfl rfl rfl (by kernel_rfl) np sf ?_
      refine Pw.takeO 13 (nb 17 16383) rfl rfl rfl (by kernel_rfl) np sf ?_
      refine Pw.takeO 14 (nb 17 32767) rfl rfl rfl (by kernel_rfl) np sf ?_
      refine Pw.takeO 15 (nb 17 65535) rfl rfl rfl (by kernel_rfl) np sf ?_
      refine Pw.takeP 16 (nb 17 131071) rfl rfl rfl rfl (by kernel_rfl) np sf ?_
      refine Pw.done (by kernel_rfl) ?_
      repeat (first | (with_reducible first | refine Pw.seq ?_ | refine Pw.region ?_ | refine Pw.nil ?_ | refine Pw.then_ ?_ | refine Pw.skip ?_ | refine Pw.block ?_ | refine Pw.exit ?_ | refine Pw.inX ?_ | refine Pw.inN ?_ | refine Pw.inR ?_ | refine Pw.thenX ?_ | refine Pw.thenR ?_ | refine Pw.ret ?_) | refine Pw.list (Pw.pure rfl rfl rfl ?_) | refine Pw.inY rfl ?_ | refine Pw.list (Pw.off rfl rfl ?_) | refine Pw.condT rfl ?_ | refine Pw.condF rfl ?_ | refine Pw.list (Pw.box rfl rfl rfl rfl (fun _ => ?_)) | refine Pw.list (Pw.alloc rfl rfl rfl rfl rfl (fun _ => ?_)) | refine Pw.list (Pw.build rfl rfl rfl rfl ?_) | refine Pw.list (Pw.ld rfl inferInstance rfl rfl rfl ?_) | refine Pw.list (Pw.sto rfl rfl inferInstance rfl rfl rfl rfl rfl inferInstance rfl ?_))
      refine Pw.re (d := 8) (v' := .int .i64 ((i + 1 : Nat) : Int)) rfl (congrArg (Value.int .i64) (i64s (n := 100000) (by omega) (by omega))) ?_
      exact Pw.again (i + 1, k) ⟨by omega, by omega, by rw [insR_succ, ← hm, ← hk]; rfl, hkl, hkm⟩ (by show n - (i + 1) < n - i; omega) ⟨rfl, rfl, rfl, rfl, rfl, trivial⟩ rfl (fun w h => h)
    · obtain ⟨j, rfl⟩ : ∃ t, j = t + 1 := ⟨j - 1, by omega⟩
      obtain ⟨x, hx, hxm⟩ := get_at (show j + 1 < k.length by omega)
      obtain ⟨y, hy, hym⟩ := get_at (show j < k.length by omega)
      have hw1 : wrap64 (((j + 1 : Nat) : Int) - 1) = ((j : Nat) : Int) := by rw [wi64 (by omega) (by omega)]; omega
      have hw3 : 0 ≤ wrap64 (((j + 1 : Nat) : Int) - 1) := by rw [hw1]; omega
      have hw4 : wrap64 (((j + 1 : Nat) : Int) - 1) < (l.length : Int) := by rw [hw1]; omega
      have hc9 : ((j + 1 : Nat) : Int) < (l.length : Int) := by omega
      have hsk : sinkR (j + 1) k = if cfR x y < 0 then sinkR j (swapR k j x y) else k := by
        show (match k[j + 1]?, k[j]? with | some x, some y => if cfR x y < 0 then sinkR j (swapR k j x y) else k | _, _ => k) = _
        rw [hx, hy]
      refine Pw.joinF (σ := Unit) (fun _ => True) (fun _ => ⟨[(0, .slice (some ⟨g, 0, none⟩) l.length c), (1, .int .i64 0), (2, .int .i64 n), (3, .func (.func 17) #[] #[]), (8, .int .i64 i), (9, .int .i64 ((j + 1 : Nat) : Int)), (34, .bool (decide (cfR x y < 0)))], [⟨g, row (k.flatMap encR ++ ex) 37⟩], [AllR1 l]⟩) ?_ ?_
      · skip
        refine Pw.drawnG mixed rfl rfl ?_
        refine Pw.takeP 0 (nb 17 1) rfl rfl rfl rfl (by kernel_rfl) np sf ?_
        refine Pw.takeP 1 (nb 17 3) rfl rfl rfl rfl (by kernel_rfl) np sf ?_
        refine Pw.takeP 2 (nb 17 7) rfl rfl rfl rfl (by kernel_rfl) np sf ?_
        refine Pw.one 3 (nb 17 15) rfl (by kernel_rfl) ?_
        refine Pw.pure rfl rfl rfl ?_
        refine Pw.re (d := 21) (v' := .bool true) rfl (congrArg Value.bool (decide_eq_true (by omega))) ?_
        refine Pw.held sf ?_
        refine Pw.takeP 4 (nb 17 31) rfl rfl rfl rfl (by kernel_rfl) np sf ?_
        refine Pw.takeP 5 (nb 17 63) rfl rfl rfl rfl (by kernel_rfl) np sf ?_
        refine Pw.takeP 6 (nb 17 127) rfl rfl rfl rfl (by kernel_rfl) np sf ?_
        refine Pw.takeIx 7 (nb 17 255) rfl rfl rfl rfl rfl (by first | assumption | omega) (by first | assumption | omega) rfl rfl (by kernel_rfl) np sf ?_
        refine Pw.takeP 9 (nb 17 767) rfl rfl rfl rfl (by kernel_rfl) np sf ?_
        refine Pw.takeP 10 (nb 17 1791) rfl rfl rfl rfl (by kernel_rfl) np sf ?_
        refine Pw.takeP 11 (nb 17 3839) rfl rfl rfl rfl (by kernel_rfl) np sf ?_
        refine Pw.takeIx 12 (nb 17 7935) rfl rfl rfl rfl rfl (by first | assumption | omega) (by first | assumption | omega) rfl rfl (by kernel_rfl) np sf ?_
        refine Pw.two 8 13 (nb 17 8191) (nb 17 16127) rfl rfl (by kernel_rfl) ?_ ?_
        · skip
          refine Pw.loadRO (l := k) (ex := ex) x rfl encR_len (by rw [Int.toNat_natCast]; exact hx) (fun w hs => hs.own _ (.head _)) (by kernel_rfl) rfl rfl ?_
          refine Pw.re (d := 26) (v' := rtV x) rfl rfl ?_
          refine Pw.held sf ?_
          refine Pw.one 13 (nb 17 16383) rfl (by kernel_rfl) ?_
          refine Pw.loadRO (l := k) (ex := ex) y rfl encR_len (by rw [hw1, Int.toNat_natCast]; exact hy) (fun w hs => hs.own _ (.head _)) (by kernel_rfl) rfl rfl ?_
          refine Pw.re (d := 31) (v' := rtV y) rfl rfl ?_
          refine Pw.held sf ?_
          refine Pw.one 14 (nb 17 32767) rfl (by kernel_rfl) ?_
          refine Pw.call (rcf_ct x y (hw x (hkm x hxm)) (hw y (hkm y hym))) rfl rfl rfl (by kernel_rfl) rfl rfl (fun w h => ⟨(hv w h : AllR1 l w) x (hkm x hxm), (hv w h : AllR1 l w) y (hkm y hym)⟩) ?_
          intro _ _
          refine Pw.held sf ?_
          refine Pw.takeP 15 (nb 17 65535) rfl rfl rfl rfl (by kernel_rfl) np sf ?_
          refine Pw.takeP 16 (nb 17 131071) rfl rfl rfl rfl (by kernel_rfl) np sf ?_
          refine Pw.done (by kernel_rfl) ?_
          exact Pw.arrive () trivial ⟨rfl, rfl, rfl, rfl, rfl, rfl, rfl, trivial⟩ rfl (fun w h => allCons (hv w h) allNil)
        · skip
          refine Pw.loadRO (l := k) (ex := ex) y rfl encR_len (by rw [hw1, Int.toNat_natCast]; exact hy) (fun w hs => hs.own _ (.head _)) (by kernel_rfl) rfl rfl ?_
          refine Pw.re (d := 31) (v' := rtV y) rfl rfl ?_
          refine Pw.held sf ?_
          refine Pw.one 8 (nb 17 16383) rfl (by kernel_rfl) ?_
          refine Pw.loadRO (l := k) (ex := ex) x rfl encR_len (by rw [Int.toNat_natCast]; exact hx) (fun w hs => hs.own _ (.head _)) (by kernel_rfl) rfl rfl ?_
          refine Pw.re (d := 26) (v' := rtV x) rfl rfl ?_
          refine Pw.held sf ?_
          refine Pw.one 14 (nb 17 32767) rfl (by kernel_rfl) ?_
          refine Pw.call (rcf_ct x y (hw x (hkm x hxm)) (hw y (hkm y hym))) rfl rfl rfl (by kernel_rfl) rfl rfl (fun w h => ⟨(hv w h : AllR1 l w) x (hkm x hxm), (hv w h : AllR1 l w) y (hkm y hym)⟩) ?_
          intro _ _
          refine Pw.held sf ?_
          refine Pw.takeP 15 (nb 17 65535) rfl rfl rfl rfl (by kernel_rfl) np sf ?_
          refine Pw.takeP 16 (nb 17 131071) rfl rfl rfl rfl (by kernel_rfl) np sf ?_
          refine Pw.done (by kernel_rfl) ?_
          exact Pw.arrive () trivial ⟨rfl, rfl, rfl, rfl, rfl, rfl, rfl, trivial⟩ rfl (fun w h => allCons (hv w h) allNil)
      · rintro ⟨⟩ _
        dsimp only
        refine Pw.condD rfl (fun c5 => ?_) (fun c5 => ?_)
        · have hsk2 : sinkR (j + 1) k = sinkR j (swapR k j x y) := by rw [hsk]; exact if_pos c5
          repeat (first | (with_reducible first | refine Pw.seq ?_ | refine Pw.region ?_ | refine Pw.nil ?_ | refine Pw.then_ ?_ | refine Pw.skip ?_ | refine Pw.block ?_ | refine Pw.exit ?_ | refine Pw.inX ?_ | refine Pw.inN ?_ | refine Pw.inR ?_ | refine Pw.thenX ?_ | refine Pw.thenR ?_ | refine Pw.ret ?_) | refine Pw.list (Pw.pure rfl rfl rfl ?_) | refine Pw.inY rfl ?_ | refine Pw.list (Pw.off rfl rfl ?_) | refine Pw.condT rfl ?_ | refine Pw.condF rfl ?_ | refine Pw.list (Pw.box rfl rfl rfl rfl (fun _ => ?_)) | refine Pw.list (Pw.alloc rfl rfl rfl rfl rfl (fun _ => ?_)) | refine Pw.list (Pw.build rfl rfl rfl rfl ?_) | refine Pw.list (Pw.ld rfl inferInstance rfl rfl rfl ?_) | refine Pw.list (Pw.sto rfl rfl inferInstance rfl rfl rfl rfl rfl inferInstance rfl ?_))
          refine Pw.drawnG mixed rfl rfl ?_
          refine Pw.takeP 0 (nb 18 1) rfl rfl rfl rfl (by kernel_rfl) np sf ?_
          refine Pw.takeP 1 (nb 18 3) rfl rfl rfl rfl (by kernel_rfl) np sf ?_
          refine Pw.takeP 2 (nb 18 7) rfl rfl rfl rfl (by kernel_rfl) np sf ?_
          refine Pw.takeP 3 (nb 18 15) rfl rfl rfl rfl (by kernel_rfl) np sf ?_
          refine Pw.takeP 4 (nb 18 31) rfl rfl rfl rfl (by kernel_rfl) np sf ?_
          refine Pw.takeP 5 (nb 18 63) rfl rfl rfl rfl (by kernel_rfl) np sf ?_
          refine Pw.takeP 6 (nb 18 127) rfl rfl rfl rfl (by kernel_rfl) np sf ?_
          refine Pw.takeP 7 (nb 18 255) rfl rfl rfl rfl (by kernel_rfl) np sf ?_
          refine Pw.takeIx 8 (nb 18 511) rfl rfl rfl rfl rfl (by first | assumption | omega) (by first | assumption | omega) rfl rfl (by kernel_rfl) np sf ?_
          refine Pw.takeP 10 (nb 18 1535) rfl rfl rfl rfl (by kernel_rfl) np sf ?_
          refine Pw.takeP 11 (nb 18 3583) rfl rfl rfl rfl (by kernel_rfl) np sf ?_
          refine Pw.takeIx 12 (nb 18 7679) rfl rfl rfl rfl rfl (by first | assumption | omega) (by first | assumption | omega) rfl rfl (by kernel_rfl) np sf ?_
          refine Pw.two 9 13 (nb 18 8191) (nb 18 15871) rfl rfl (by kernel_rfl) ?_ ?_
          · skip
            refine Pw.loadRO (l := k) (ex := ex) y rfl encR_len (by rw [hw1, Int.toNat_natCast]; exact hy) (fun w hs => hs.own _ (.head _)) (by kernel_rfl) rfl rfl ?_
            refine Pw.re (d := 46) (v' := rtV y) rfl rfl ?_
            refine Pw.held sf ?_
            refine Pw.one 13 (nb 18 16383) rfl (by kernel_rfl) ?_
            refine Pw.loadRO (l := k) (ex := ex) x rfl encR_len (by rw [Int.toNat_natCast]; exact hx) (fun w hs => hs.own _ (.head _)) (by kernel_rfl) rfl rfl ?_
            refine Pw.re (d := 50) (v' := rtV x) rfl rfl ?_
            refine Pw.held sf ?_
            refine Pw.takeIx 14 (nb 18 32767) rfl rfl rfl rfl rfl (by first | assumption | omega) (by first | assumption | omega) rfl rfl (by kernel_rfl) np sf ?_
            refine Pw.one 15 (nb 18 65535) rfl (by kernel_rfl) ?_
            refine Pw.storeR (sz := 2) (l := k) (ex := ex) y rfl rfl rfl encR_len (by omega) (by rw [Int.toNat_natCast]; omega) rfl rfl rfl .head rfl ?_
            rw [Int.toNat_natCast]
            refine Pw.held sf ?_
            refine Pw.takeIx 16 (nb 18 131071) rfl rfl rfl rfl rfl (by first | assumption | omega) (by first | assumption | omega) rfl rfl (by kernel_rfl) np sf ?_
            refine Pw.one 17 (nb 18 262143) rfl (by kernel_rfl) ?_
            refine Pw.storeR (sz := 2) (l := k.set (j + 1) y) (ex := ex) x rfl rfl rfl encR_len (by omega) (by rw [hw1, Int.toNat_natCast, List.length_set]; omega) rfl rfl rfl .head rfl ?_
            rw [hw1, Int.toNat_natCast]
            refine Pw.held sf ?_
            refine Pw.done (by kernel_rfl) ?_
            repeat (first | (with_reducible first | refine Pw.seq ?_ | refine Pw.region ?_ | refine Pw.nil ?_ | refine Pw.then_ ?_ | refine Pw.skip ?_ | refine Pw.block ?_ | refine Pw.exit ?_ | refine Pw.inX ?_ | refine Pw.inN ?_ | refine Pw.inR ?_ | refine Pw.thenX ?_ | refine Pw.thenR ?_ | refine Pw.ret ?_) | refine Pw.list (Pw.pure rfl rfl rfl ?_) | refine Pw.inY rfl ?_ | refine Pw.list (Pw.off rfl rfl ?_) | refine Pw.condT rfl ?_ | refine Pw.condF rfl ?_ | refine Pw.list (Pw.box rfl rfl rfl rfl (fun _ => ?_)) | refine Pw.list (Pw.alloc rfl rfl rfl rfl rfl (fun _ => ?_)) | refine Pw.list (Pw.build rfl rfl rfl rfl ?_) | refine Pw.list (Pw.ld rfl inferInstance rfl rfl rfl ?_) | refine Pw.list (Pw.sto rfl rfl inferInstance rfl rfl rfl rfl rfl inferInstance rfl ?_))
            refine Pw.re (d := 9) (v' := .int .i64 ((j : Nat) : Int)) rfl (congrArg (Value.int .i64) hw1) ?_
            exact Pw.again (j, swapR k j x y) ⟨by omega, by rw [← hsk2]; exact hk, by rw [swapR_len]; exact hkl, fun o ho => hkm o (swapR_mem hxm hym ho)⟩ (by show j < j + 1; omega) ⟨rfl, rfl, rfl, rfl, rfl, rfl, trivial⟩ rfl (fun w h => allCons (hv w h) allNil)
          · skip
            refine Pw.loadRO (l := k) (ex := ex) x rfl encR_len (by rw [Int.toNat_natCast]; exact hx) (fun w hs => hs.own _ (.head _)) (by kernel_rfl) rfl rfl ?_
            refine Pw.re (d := 50) (v' := rtV x) rfl rfl ?_
            refine Pw.held sf ?_
            refine Pw.one 9 (nb 18 16383) rfl (by kernel_rfl) ?_
            refine Pw.loadRO (l := k) (ex := ex) y rfl encR_len (by rw [hw1, Int.toNat_natCast]; exact hy) (fun w hs => hs.own _ (.head _)) (by kernel_rfl) rfl rfl ?_
            refine Pw.re (d := 46) (v' := rtV y) rfl rfl ?_
            refine Pw.held sf ?_
            refine Pw.takeIx 14 (nb 18 32767) rfl rfl rfl rfl rfl (by first | assumption | omega) (by first | assumption | omega) rfl rfl (by kernel_rfl) np sf ?_
            refine Pw.one 15 (nb 18 65535) rfl (by kernel_rfl) ?_
            refine Pw.storeR (sz := 2) (l := k) (ex := ex) y rfl rfl rfl encR_len (by omega) (by rw [Int.toNat_natCast]; omega) rfl rfl rfl .head rfl ?_
            rw [Int.toNat_natCast]
            refine Pw.held sf ?_
            refine Pw.takeIx 16 (nb 18 131071) rfl rfl rfl rfl rfl (by first | assumption | omega) (by first | assumption | omega) rfl rfl (by kernel_rfl) np sf ?_
            refine Pw.one 17 (nb 18 262143) rfl (by kernel_rfl) ?_
            refine Pw.storeR (sz := 2) (l := k.set (j + 1) y) (ex := ex) x rfl rfl rfl encR_len (by omega) (by rw [hw1, Int.toNat_natCast, List.length_set]; omega) rfl rfl rfl .head rfl ?_
            rw [hw1, Int.toNat_natCast]
            refine Pw.held sf ?_
            refine Pw.done (by kernel_rfl) ?_
            repeat (first | (with_reducible first | refine Pw.seq ?_ | refine Pw.region ?_ | refine Pw.nil ?_ | refine Pw.then_ ?_ | refine Pw.skip ?_ | refine Pw.block ?_ | refine Pw.exit ?_ | refine Pw.inX ?_ | refine Pw.inN ?_ | refine Pw.inR ?_ | refine Pw.thenX ?_ | refine Pw.thenR ?_ | refine Pw.ret ?_) | refine Pw.list (Pw.pure rfl rfl rfl ?_) | refine Pw.inY rfl ?_ | refine Pw.list (Pw.off rfl rfl ?_) | refine Pw.condT rfl ?_ | refine Pw.condF rfl ?_ | refine Pw.list (Pw.box rfl rfl rfl rfl (fun _ => ?_)) | refine Pw.list (Pw.alloc rfl rfl rfl rfl rfl (fun _ => ?_)) | refine Pw.list (Pw.build rfl rfl rfl rfl ?_) | refine Pw.list (Pw.ld rfl inferInstance rfl rfl rfl ?_) | refine Pw.list (Pw.sto rfl rfl inferInstance rfl rfl rfl rfl rfl inferInstance rfl ?_))
            refine Pw.re (d := 9) (v' := .int .i64 ((j : Nat) : Int)) rfl (congrArg (Value.int .i64) hw1) ?_
            exact Pw.again (j, swapR k j x y) ⟨by omega, by rw [← hsk2]; exact hk, by rw [swapR_len]; exact hkl, fun o ho => hkm o (swapR_mem hxm hym ho)⟩ (by show j < j + 1; omega) ⟨rfl, rfl, rfl, rfl, rfl, rfl, trivial⟩ rfl (fun w h => allCons (hv w h) allNil)
        · have hsk2 : sinkR (j + 1) k = k := by rw [hsk]; exact if_neg c5
          repeat (first | (with_reducible first | refine Pw.seq ?_ | refine Pw.region ?_ | refine Pw.nil ?_ | refine Pw.then_ ?_ | refine Pw.skip ?_ | refine Pw.block ?_ | refine Pw.exit ?_ | refine Pw.inX ?_ | refine Pw.inN ?_ | refine Pw.inR ?_ | refine Pw.thenX ?_ | refine Pw.thenR ?_ | refine Pw.ret ?_) | refine Pw.list (Pw.pure rfl rfl rfl ?_) | refine Pw.inY rfl ?_ | refine Pw.list (Pw.off rfl rfl ?_) | refine Pw.condT rfl ?_ | refine Pw.condF rfl ?_ | refine Pw.list (Pw.box rfl rfl rfl rfl (fun _ => ?_)) | refine Pw.list (Pw.alloc rfl rfl rfl rfl rfl (fun _ => ?_)) | refine Pw.list (Pw.build rfl rfl rfl rfl ?_) | refine Pw.list (Pw.ld rfl inferInstance rfl rfl rfl ?_) | refine Pw.list (Pw.sto rfl rfl inferInstance rfl rfl rfl rfl rfl inferInstance rfl ?_))
          refine Pw.re (d := 8) (v' := .int .i64 ((i + 1 : Nat) : Int)) rfl (congrArg (Value.int .i64) (i64s (n := 100000) (by omega) (by omega))) ?_
          exact Pw.again (i + 1, k) ⟨by omega, by omega, by rw [insR_succ, ← hm, ← hk, hsk2], hkl, hkm⟩ (by show n - (i + 1) < n - i; omega) ⟨rfl, rfl, rfl, rfl, rfl, trivial⟩ rfl (fun w h => allCons (hv w h) allNil)
  · obtain rfl : i = n := by omega
    repeat (first | (with_reducible first | refine Pw.seq ?_ | refine Pw.region ?_ | refine Pw.nil ?_ | refine Pw.then_ ?_ | refine Pw.skip ?_ | refine Pw.block ?_ | refine Pw.exit ?_ | refine Pw.inX ?_ | refine Pw.inN ?_ | refine Pw.inR ?_ | refine Pw.thenX ?_ | refine Pw.thenR ?_ | refine Pw.ret ?_) | refine Pw.list (Pw.pure rfl rfl rfl ?_) | refine Pw.inY rfl ?_ | refine Pw.list (Pw.off rfl rfl ?_) | refine Pw.condT rfl ?_ | refine Pw.condF rfl ?_ | refine Pw.list (Pw.box rfl rfl rfl rfl (fun _ => ?_)) | refine Pw.list (Pw.alloc rfl rfl rfl rfl rfl (fun _ => ?_)) | refine Pw.list (Pw.build rfl rfl rfl rfl ?_) | refine Pw.list (Pw.ld rfl inferInstance rfl rfl rfl ?_) | refine Pw.list (Pw.sto rfl rfl inferInstance rfl rfl rfl rfl rfl inferInstance rfl ?_))
    subst hm
    exact Pw.ret1N (x := ()) hD (.head _) .nil rfl trivial (fun w h => by trivial)
end Go.Proofs.Wk
/- Fractions sorted: what the insertion sort comes to. -/
namespace Go.Proofs.Wk
set_option linter.unusedVariables false
set_option linter.unusedSimpArgs false
def RtQ (m : Nat) (o : Rt) : Prop := o.a = qn (rq o) ∧ o.b = qd (rq o) ∧ Sz m (rq o)
theorem cfR_lt {m : Nat} {x y : Rt} (hx : RtQ m x) (hy : RtQ m y) (hm : m ≤ 200) : cfR x y < 0 ↔ rq x < rq y := by
  unfold cfR
  rw [hx.1, hx.2.1, hy.1, hy.2.1, q_cmp hx.2.2 hy.2.2 (by omega)]
  unfold cmpQ
  by_cases h : rq x < rq y
  · rw [if_pos h]; simp [h]
  · rw [if_neg h]
    by_cases h2 : rq x = rq y
    · rw [if_pos h2]; simp [h]
    · rw [if_neg h2]; simp [h]
def insBR (x : Rt) : List Rt → List Rt
  | [] => [x]
  | y :: r => if rq x < rq y then y :: insBR x r else x :: y :: r
theorem sinkR_insBR {m : Nat} (hm : m ≤ 200) : ∀ (pre post : List Rt) (x : Rt), (∀ o ∈ pre, RtQ m o) → RtQ m x → sinkR pre.length (pre.reverse ++ x :: post) = (insBR x pre).reverse ++ post
  | [], post, x, _, _ => rfl
  | y :: r, post, x, hp, hx => by
    have hl : (y :: r).reverse ++ x :: post = r.reverse ++ y :: x :: post := by simp
    have e0 : (r.reverse ++ y :: x :: post)[r.length]? = some y := by
      rw [List.getElem?_append_right (by simp)]; simp
    have e1 : (r.reverse ++ y :: x :: post)[r.length + 1]? = some x := by
      rw [List.getElem?_append_right (by simp)]; simp
    rw [hl, List.length_cons]
    have e2 : sinkR (r.length + 1) (r.reverse ++ y :: x :: post) = if cfR x y < 0 then sinkR r.length (swapR (r.reverse ++ y :: x :: post) r.length x y) else r.reverse ++ y :: x :: post := by
      simp only [sinkR, e0, e1]
    rw [e2]
    have hc := cfR_lt hx (hp y (List.mem_cons_self ..)) hm
    unfold insBR
    by_cases h : rq x < rq y
    · rw [if_pos (hc.2 h), if_pos h]
      have hs : swapR (r.reverse ++ y :: x :: post) r.length x y = r.reverse ++ x :: y :: post := by
        unfold swapR
        rw [List.set_append_right _ _ (by simp), List.set_append_right _ _ (by simp)]
        simp
      rw [hs, sinkR_insBR hm r (y :: post) x (fun o ho => hp o (List.mem_cons_of_mem _ ho)) hx]
      simp
    · rw [if_neg (fun e => h (hc.1 e)), if_neg h]; simp
def isBR (l : List Rt) : List Rt := l.foldl (fun acc x => insBR x acc) []
theorem insBR_perm (x : Rt) : ∀ l : List Rt, (insBR x l).Perm (x :: l)
  | [] => .refl _
  | y :: r => by
    unfold insBR
    split
    · exact ((insBR_perm x r).cons y).trans (.swap ..)
    · exact .refl _
theorem isBR_snoc (l : List Rt) (x : Rt) : isBR (l ++ [x]) = insBR x (isBR l) := by unfold isBR; rw [List.foldl_append]; rfl
theorem isBR_perm : ∀ (n : Nat) (l : List Rt), l.length = n → (isBR l).Perm l
  | 0, l, h => by rw [List.eq_nil_of_length_eq_zero h]; exact .refl _
  | n + 1, l, h => by
    obtain ⟨x, hx, _⟩ := get_at (show n < l.length by omega)
    have e : l = l.take n ++ [x] := by rw [← take_snoc hx, List.take_of_length_le (by omega)]
    rw [e, isBR_snoc]
    refine (insBR_perm x _).trans (((isBR_perm n _ (by rw [List.length_take]; omega)).cons x).trans ?_)
    exact (List.perm_append_comm (l₁ := [x]))
theorem insR_isBR {m : Nat} (hm : m ≤ 200) {l : List Rt} (hq : ∀ o ∈ l, RtQ m o) : ∀ (i : Nat), i ≤ l.length → insR i l = (isBR (l.take i)).reverse ++ l.drop i
  | 0, _ => by simp [insR, isBR]
  | i + 1, h => by
    obtain ⟨x, hx, hxm⟩ := get_at (show i < l.length by omega)
    obtain ⟨_, hx'⟩ := List.getElem?_eq_some_iff.1 hx
    have hp := isBR_perm i (l.take i) (by rw [List.length_take]; omega)
    have hlen : (isBR (l.take i)).length = i := by rw [hp.length_eq, List.length_take]; omega
    rw [insR_succ, insR_isBR hm hq i (by omega), take_snoc hx, isBR_snoc]
    have e := sinkR_insBR hm (isBR (l.take i)) (l.drop (i + 1)) x (fun o ho => hq o (List.mem_of_mem_take (hp.mem_iff.1 ho))) (hq x hxm)
    rw [hlen] at e
    rw [← e, List.drop_eq_getElem_cons (by omega), hx']
theorem insBR_pw {x : Rt} : ∀ {l : List Rt}, l.Pairwise (fun p q => rq q ≤ rq p) → (insBR x l).Pairwise (fun p q => rq q ≤ rq p)
  | [], _ => List.pairwise_singleton _ _
  | y :: r, h => by
    obtain ⟨h1, h2⟩ := List.pairwise_cons.1 h
    unfold insBR
    split
    · rename_i hlt
      refine List.pairwise_cons.2 ⟨fun z hz => ?_, insBR_pw h2⟩
      rcases List.mem_cons.1 ((insBR_perm x r).mem_iff.1 hz) with rfl | hz
      · exact Rat.le_of_lt hlt
      · exact h1 z hz
    · rename_i hlt
      have hyx : rq y ≤ rq x := Rat.not_lt.1 hlt
      refine List.pairwise_cons.2 ⟨fun z hz => ?_, h⟩
      rcases List.mem_cons.1 hz with rfl | hz
      · exact hyx
      · exact Rat.le_trans (h1 z hz) hyx
theorem isBR_pw : ∀ (n : Nat) (l : List Rt), l.length = n → (isBR l).Pairwise (fun p q => rq q ≤ rq p)
  | 0, l, h => by rw [List.eq_nil_of_length_eq_zero h]; exact List.Pairwise.nil
  | n + 1, l, h => by
    obtain ⟨x, hx, _⟩ := get_at (show n < l.length by omega)
    have e : isBR l = insBR x (isBR (l.take n)) := by rw [← isBR_snoc, ← take_snoc hx, List.take_of_length_le (by omega)]
    rw [e]
    exact insBR_pw (isBR_pw n (l.take n) (by rw [List.length_take]; omega))
/-- Sorted: the same ones, rising. -/
theorem insR_perm {m : Nat} (hm : m ≤ 200) {l : List Rt} (hq : ∀ o ∈ l, RtQ m o) : (insR l.length l).Perm l ∧ ((insR l.length l).map rq).Pairwise (· ≤ ·) := by
  have e := insR_isBR hm hq l.length (Nat.le_refl _)
  rw [List.take_length, List.drop_length, List.append_nil] at e
  rw [e]
  refine ⟨(List.reverse_perm _).trans (isBR_perm _ l rfl), ?_⟩
  rw [List.pairwise_map, List.pairwise_reverse]
  exact isBR_pw _ l rfl
end Go.Proofs.Wk
/- Fractions: walks of slices.Values, AppendSeq, Collect at them. -/
namespace Go.Proofs.Wk
open Go.RowKit
set_option maxRecDepth 100000
set_option maxHeartbeats 1000000
attribute [local irreducible] Pw OpG
set_option linter.unusedVariables false
set_option linter.unusedSimpArgs false
def gtR (l : List Rt) (i : Nat) : Value := match l[i]? with | some p => rtV p | none => undef
theorem gtR_at {l : List Rt} {i : Nat} {p : Rt} (h : l[i]? = some p) : gtR l i = rtV p := by unfold gtR; rw [h]
theorem ValuesR_ct (l : List Rt) (x : Option Addr × Nat) : Ct Tryz.prog 16 #[rsV l x] (fun _ => True) (fun g : Nat => .func (.func 38) #[] #[.pointer (some ⟨g, 0, none⟩)]) Tt (fun g W => W.heap[g]? = some (row [rsV l x] 26)) := by
  refine Ct.start Tryz.func16 rfl rfl (slots_of rfl slots1) (fun D w0 => ?_)
  repeat (first | (with_reducible first | refine Pw.seq ?_ | refine Pw.region ?_ | refine Pw.nil ?_ | refine Pw.then_ ?_ | refine Pw.skip ?_ | refine Pw.block ?_ | refine Pw.exit ?_ | refine Pw.inX ?_ | refine Pw.inN ?_ | refine Pw.inR ?_ | refine Pw.thenX ?_ | refine Pw.thenR ?_ | refine Pw.ret ?_) | refine Pw.list (Pw.pure rfl rfl rfl ?_) | refine Pw.inY rfl ?_ | refine Pw.list (Pw.off rfl rfl ?_) | refine Pw.condT rfl ?_ | refine Pw.condF rfl ?_)
  refine Pw.list (Pw.box rfl rfl rfl rfl (fun g => freeHead ?_))
  repeat (first | (with_reducible first | refine Pw.seq ?_ | refine Pw.region ?_ | refine Pw.nil ?_ | refine Pw.then_ ?_ | refine Pw.skip ?_ | refine Pw.block ?_ | refine Pw.exit ?_ | refine Pw.inX ?_ | refine Pw.inN ?_ | refine Pw.inR ?_ | refine Pw.thenX ?_ | refine Pw.thenR ?_ | refine Pw.ret ?_) | refine Pw.list (Pw.pure rfl rfl rfl ?_) | refine Pw.inY rfl ?_ | refine Pw.list (Pw.off rfl rfl ?_) | refine Pw.condT rfl ?_ | refine Pw.condF rfl ?_ | refine Pw.list (Pw.box rfl rfl rfl rfl (fun _ => ?_)) | refine Pw.list (Pw.alloc rfl rfl rfl rfl rfl (fun _ => ?_)) | refine Pw.list (Pw.build rfl rfl rfl rfl ?_) | refine Pw.list (Pw.ld rfl inferInstance rfl rfl rfl ?_) | refine Pw.list (Pw.sto rfl rfl inferInstance rfl rfl rfl rfl rfl inferInstance rfl ?_))
  exact Pw.ret_ (x := g) (.tmp rfl .nil) rfl trivial (fun w h => fact0 h)
theorem ValuesR_it (l : List Rt) (x : Option Addr × Nat) (g : Nat) (htop : l.length ≤ 9223372036854775807) : Iter Tryz.prog 38 #[.pointer (some ⟨g, 0, none⟩)] l.length (gtR l) (fun W => W.heap[g]? = some (row [rsV l x] 26) ∧ RS l x W) := by
  obtain ⟨A, c⟩ := x
  refine Iter.start (n := 2 + (Tryz.f38.ntmps - 2)) Tryz.func38 rfl (fun r => [(0, .func (.yield r) #[] #[]), (1, .pointer (some ⟨g, 0, none⟩))]) (fun r => rfl) (fun r => slots_of rfl slots2) (fun r J hY hst hpre w0 h0 => ?_)
  refine Pw.facts (G' := [fun W => W.heap[g]? = some (row [.slice A l.length c] 26), RS l (A, c)]) (fun w h => allCons (fact0 h).1 (allCons (fact0 h).2 allNil)) ?_
  repeat (first | (with_reducible first | refine Pw.seq ?_ | refine Pw.region ?_ | refine Pw.nil ?_ | refine Pw.then_ ?_ | refine Pw.skip ?_ | refine Pw.block ?_ | refine Pw.exit ?_ | refine Pw.inX ?_ | refine Pw.inN ?_ | refine Pw.inR ?_ | refine Pw.thenX ?_ | refine Pw.thenR ?_ | refine Pw.ret ?_) | refine Pw.list (Pw.pure rfl rfl rfl ?_) | refine Pw.inY rfl ?_ | refine Pw.list (Pw.off rfl rfl ?_) | refine Pw.condT rfl ?_ | refine Pw.condF rfl ?_ | refine Pw.list (Pw.box rfl rfl rfl rfl (fun _ => ?_)) | refine Pw.list (Pw.alloc rfl rfl rfl rfl rfl (fun _ => ?_)) | refine Pw.list (Pw.build rfl rfl rfl rfl ?_) | refine Pw.list (Pw.ld rfl inferInstance rfl rfl rfl ?_) | refine Pw.list (Pw.sto rfl rfl inferInstance rfl rfl rfl rfl rfl inferInstance rfl ?_))
  refine Pw.loopY (NN := l.length) hst hpre (fun i => [(0, .func (.yield r) #[] #[]), (1, .pointer (some ⟨g, 0, none⟩)), (5, .slice A l.length c), (6, .int .i64 l.length), (7, .int .i64 i)]) h0 ⟨rfl, rfl, rfl, rfl, rfl, trivial⟩ ?_
  intro i w1 hi hJ
  refine Pw.facts (G' := [fun W => W.heap[g]? = some (row [.slice A l.length c] 26), RS l (A, c)]) (fun w h => allCons (fact0 h).1 (allCons (fact0 h).2 allNil)) ?_
  repeat (first | (with_reducible first | refine Pw.seq ?_ | refine Pw.region ?_ | refine Pw.nil ?_ | refine Pw.then_ ?_ | refine Pw.skip ?_ | refine Pw.block ?_ | refine Pw.exit ?_ | refine Pw.inX ?_ | refine Pw.inN ?_ | refine Pw.inR ?_ | refine Pw.thenX ?_ | refine Pw.thenR ?_ | refine Pw.ret ?_) | refine Pw.list (Pw.pure rfl rfl rfl ?_) | refine Pw.inY rfl ?_ | refine Pw.list (Pw.off rfl rfl ?_) | refine Pw.condT rfl ?_ | refine Pw.condF rfl ?_)
  refine Pw.condD rfl (fun c3 => ?_) (fun c3 => ?_)
  · obtain ⟨p, hp, hm⟩ := get_at (show i < l.length by omega)
    repeat (first | (with_reducible first | refine Pw.seq ?_ | refine Pw.region ?_ | refine Pw.nil ?_ | refine Pw.then_ ?_ | refine Pw.skip ?_ | refine Pw.block ?_ | refine Pw.exit ?_ | refine Pw.inX ?_ | refine Pw.inN ?_ | refine Pw.inR ?_ | refine Pw.thenX ?_ | refine Pw.thenR ?_ | refine Pw.ret ?_) | refine Pw.list (Pw.pure rfl rfl rfl ?_) | refine Pw.inY rfl ?_ | refine Pw.list (Pw.off rfl rfl ?_) | refine Pw.condT rfl ?_ | refine Pw.condF rfl ?_)
    refine Pw.list (Pw.index rfl rfl rfl rfl (Int.natCast_nonneg i) c3 (fun w h => (fact1 h).has (Int.natCast_nonneg i) c3) rfl rfl ?_)
    rintro ad rfl
    refine Pw.list (Pw.loadR p rfl inferInstance rfl (by rw [Int.toNat_natCast]; exact hp) (by kernel_rfl) rfl rfl ?_)
    refine Pw.re (d := 10) (v' := rtV p) rfl rfl ?_
    refine Pw.list (Pw.alloc rfl rfl rfl rfl rfl (fun g4 => ?_))
    refine Pw.list (Pw.sto rfl rfl inferInstance rfl rfl rfl rfl rfl inferInstance rfl ?_)
    refine Pw.nil (Pw.then_ (Pw.seq (Pw.regionY ?_)))
    refine Pw.listI rfl (Pw.pure rfl rfl rfl ?_)
    refine Pw.listI rfl (Pw.ld rfl inferInstance rfl rfl rfl ?_)
    have hY' := hY
    refine Pw.yield hY hst hpre (show i < l.length by omega) hJ rfl (by rw [gtR_at hp]; rfl) rfl rfl ?_
    intro w3 hJ3
    refine Pw.listI rfl (Pw.pure rfl rfl rfl ?_)
    refine Pw.nilI ?_
    repeat (first | (with_reducible first | refine Pw.seq ?_ | refine Pw.region ?_ | refine Pw.nil ?_ | refine Pw.then_ ?_ | refine Pw.skip ?_ | refine Pw.block ?_ | refine Pw.exit ?_ | refine Pw.inX ?_ | refine Pw.inN ?_ | refine Pw.inR ?_ | refine Pw.thenX ?_ | refine Pw.thenR ?_ | refine Pw.ret ?_) | refine Pw.list (Pw.pure rfl rfl rfl ?_) | refine Pw.inY rfl ?_ | refine Pw.list (Pw.off rfl rfl ?_) | refine Pw.condT rfl ?_ | refine Pw.condF rfl ?_)
    refine Pw.re (d := 7) (v' := .int .i64 ((i + 1 : Nat) : Int)) rfl (congrArg (Value.int .i64) (i64s (by omega) htop)) ?_
    exact Pw.againY hst (i + 1) (by omega) (by omega) hJ3 ⟨rfl, rfl, rfl, rfl, rfl, trivial⟩
  · obtain rfl : i = l.length := by omega
    repeat (first | (with_reducible first | refine Pw.seq ?_ | refine Pw.region ?_ | refine Pw.nil ?_ | refine Pw.then_ ?_ | refine Pw.skip ?_ | refine Pw.block ?_ | refine Pw.exit ?_ | refine Pw.inX ?_ | refine Pw.inN ?_ | refine Pw.inR ?_ | refine Pw.thenX ?_ | refine Pw.thenR ?_ | refine Pw.ret ?_) | refine Pw.list (Pw.pure rfl rfl rfl ?_) | refine Pw.inY rfl ?_ | refine Pw.list (Pw.off rfl rfl ?_) | refine Pw.condT rfl ?_ | refine Pw.condF rfl ?_)
    exact Pw.retY hst hJ .nil
theorem enters_valuesR : ∀ args w, (callFunc 38 args).run Tryz.prog w = .ok (.enter 38 args) w := enters_callB (by kernel_rfl)
abbrev vfR (g : Nat) : Value := .func (.func 38) #[] #[.pointer (some ⟨g, 0, none⟩)]
abbrev preR (l : List Rt) (x : Option Addr × Nat) (g : Nat) (W : World) : Prop := W.heap[g]? = some (row [rsV l x] 26) ∧ RS l x W
theorem AppendSeqR_ct (l : List Rt) (x : Option Addr × Nat) (g : Nat) (hl : l.length ≤ 1000000) :
    CtL Tryz.prog 61 #[.slice none 0 0, vfR g] (preR l x g) (fun q : Gr => gv q l.length) (fun q => gOk q (cellsR l) l.length 2) (fun q => gL q (cellsR l) 37) (fun _ _ => True) := by
  have htop : l.length ≤ 9223372036854775807 := by omega
  refine CtL.startM Tryz.func61 rfl rfl (slots_of rfl slots2) (fun D w0 => ?_)
  repeat (first | (with_reducible first | refine Pw.seq ?_ | refine Pw.region ?_ | refine Pw.nil ?_ | refine Pw.then_ ?_ | refine Pw.skip ?_ | refine Pw.block ?_ | refine Pw.exit ?_ | refine Pw.inX ?_ | refine Pw.inN ?_ | refine Pw.inR ?_ | refine Pw.thenX ?_ | refine Pw.thenR ?_ | refine Pw.ret ?_) | refine Pw.list (Pw.pure rfl rfl rfl ?_) | refine Pw.inY rfl ?_ | refine Pw.list (Pw.off rfl rfl ?_) | refine Pw.condT rfl ?_ | refine Pw.condF rfl ?_)
  refine Pw.list (Pw.box rfl rfl rfl rfl (fun g2 => ?_))
  repeat (first | (with_reducible first | refine Pw.seq ?_ | refine Pw.region ?_ | refine Pw.nil ?_ | refine Pw.then_ ?_ | refine Pw.skip ?_ | refine Pw.block ?_ | refine Pw.exit ?_ | refine Pw.inX ?_ | refine Pw.inN ?_ | refine Pw.inR ?_ | refine Pw.thenX ?_ | refine Pw.thenR ?_ | refine Pw.ret ?_) | refine Pw.list (Pw.pure rfl rfl rfl ?_) | refine Pw.inY rfl ?_ | refine Pw.list (Pw.off rfl rfl ?_) | refine Pw.condT rfl ?_ | refine Pw.condF rfl ?_ | refine Pw.list (Pw.box rfl rfl rfl rfl (fun _ => ?_)) | refine Pw.list (Pw.alloc rfl rfl rfl rfl rfl (fun _ => ?_)) | refine Pw.list (Pw.build rfl rfl rfl rfl ?_) | refine Pw.list (Pw.ld rfl inferInstance rfl rfl rfl ?_) | refine Pw.list (Pw.sto rfl rfl inferInstance rfl rfl rfl rfl rfl inferInstance rfl ?_))
  refine Pw.rangeFunc (σ := Gr) (τ := Nat) (fun i q => gOk q (cellsR (l.take i)) i 2) (fun i q => ⟨gL q (cellsR (l.take i)) 37 ++ [⟨g2, row [gv q i] 26⟩], [preR l x g]⟩) none (fun _ _ _ => True)
    (fun i q g5 => ⟨[(2, .pointer (some ⟨g2, 0, none⟩)), (5, .pointer (some ⟨g5, 0, none⟩))], gL q (cellsR (l.take i)) 37 ++ [⟨g2, row [gv q i] 26⟩], [fun W => W.heap[g5]? = some (row (encR (l.getD i ⟨[], [], z0⟩)) 37), preR l x g]⟩)
    rfl enters_valuesR (ValuesR_it l x g htop) rfl ⟨rfl, rfl⟩ rfl (fun w h => h) (fun i q hq w h => fact0 h) ?_ ?_ ?_
  · intro i q T rr hi hq
    obtain ⟨p, hp, _⟩ := get_at hi
    rw [gtR_at hp]
    refine Pw.regionI rfl ?_
    refine Pw.list (Pw.alloc rfl rfl rfl rfl rfl (fun g5 => ?_))
    refine Pw.list (Pw.sto rfl rfl inferInstance rfl rfl rfl rfl rfl inferInstance rfl ?_)
    refine Pw.nil (Pw.then_ (freeHead ?_))
    exact Pw.arriveR g5 trivial ⟨rfl, rfl, trivial⟩ rfl (fun w h => allCons (by rw [List.getD_eq_getElem?_getD, hp]; exact fact0 h) (allTail h))
  · intro i q g5 T rr hi hq _
    obtain ⟨p, hp, _⟩ := get_at hi
    have eD : l.getD i ⟨[], [], z0⟩ = p := by rw [List.getD_eq_getElem?_getD, hp]; rfl
    dsimp only at hq ⊢
    rw [eD]
    refine Pw.eqL (L' := gL q (cellsR (l.take i)) 37 ++ (⟨g2, row [gv q i] 26⟩ :: T)) (by simp) ?_
    refine Pw.blockI (Pw.regionI rfl ?_)
    refine Pw.list (Pw.ld rfl inferInstance rfl rfl rfl ?_)
    refine Pw.list (Pw.ld rfl inferInstance rfl rfl rfl ?_)
    refine Pw.re (d := 9) (v' := rtV p) rfl rfl ?_
    refine Pw.list (Pw.lit12 rfl rfl rfl rfl rfl rfl rfl rfl rfl (fun g1 => freeHead ?_))
    refine Pw.list (Pw.push (s := q) (m := i) (news := encR p) (L0 := ⟨g2, row [gv q i] 26⟩ :: T) rfl rfl rfl rfl rfl rfl rfl hq rfl (encR_one p) (fun w hs j u hu => by
      have h1 := fact0 hs.all
      rw [add_none, cell_of_blk h1]
      simpa [encR] using hu) (by omega) (by simp only [maxLen]; omega) (by show (i + 1) * 48 ≤ _; omega) rfl rfl (fun q' hq' => ?_))
    refine Pw.list (Pw.sto (vs := [gv q' (i + 1)]) rfl rfl inferInstance (by cases q' <;> rfl) rfl rfl (by cases q' <;> rfl) rfl inferInstance rfl ?_)
    refine Pw.nil ?_
    have e1 : cellsR (l.take (i + 1)) = cellsR (l.take i) ++ encR p := by rw [take_snoc hp, cellsR_snoc]
    refine Pw.inN (Pw.roundEnd ?_)
    refine Pw.eqL (L' := (gL q' (cellsR (l.take (i + 1))) 37 ++ [⟨g2, row [gv q' (i + 1)] 26⟩]) ++ T) (by simp [e1]) ?_
    refine Pw.arriveE (J := fun q => gOk q (cellsR (l.take (i + 1))) (i + 1) 2) (I := fun q => ⟨gL q (cellsR (l.take (i + 1))) 37 ++ [⟨g2, row [gv q (i + 1)] 26⟩], [preR l x g]⟩) q' ?_ rfl ?_
    · show gOk q' _ _ _; rw [e1]; exact hq'
    · exact fun w h => allCons (hv w h) allNil
  · intro q Dm hq
    dsimp only at hq ⊢
    rw [List.take_length] at hq ⊢
    refine Pw.tail (i := 4) rfl ?_
    refine Pw.list (Pw.ld rfl inferInstance rfl rfl rfl ?_)
    refine Pw.list (Pw.pure rfl rfl rfl ?_)
    refine Pw.nil ?_
    exact Pw.retLM (x := q) .head (.cons _ (List.sublist_append_left _ _)) (.tmp rfl .nil) rfl hq (fun w h => trivial)
theorem CollectR_ct (l : List Rt) (x : Option Addr × Nat) (g : Nat) (hl : l.length ≤ 1000000) :
    CtL Tryz.prog 36 #[vfR g] (preR l x g) (fun q : Gr => gv q l.length) (fun q => gOk q (cellsR l) l.length 2) (fun q => gL q (cellsR l) 37) (fun _ _ => True) := by
  refine CtL.start Tryz.func36 rfl rfl (slots_of rfl slots1) (fun D w0 => ?_)
  repeat (first | (with_reducible first | refine Pw.seq ?_ | refine Pw.region ?_ | refine Pw.nil ?_ | refine Pw.then_ ?_ | refine Pw.skip ?_ | refine Pw.block ?_ | refine Pw.exit ?_ | refine Pw.inX ?_ | refine Pw.inN ?_ | refine Pw.inR ?_ | refine Pw.thenX ?_ | refine Pw.thenR ?_ | refine Pw.ret ?_) | refine Pw.list (Pw.pure rfl rfl rfl ?_) | refine Pw.inY rfl ?_ | refine Pw.list (Pw.off rfl rfl ?_) | refine Pw.condT rfl ?_ | refine Pw.condF rfl ?_)
  refine Pw.list (Pw.callL (AppendSeqR_ct l x g hl) rfl rfl rfl (by kernel_rfl) rfl rfl (fun w h => fact0 h) ?_)
  intro q hq
  repeat (first | (with_reducible first | refine Pw.seq ?_ | refine Pw.region ?_ | refine Pw.nil ?_ | refine Pw.then_ ?_ | refine Pw.skip ?_ | refine Pw.block ?_ | refine Pw.exit ?_ | refine Pw.inX ?_ | refine Pw.inN ?_ | refine Pw.inR ?_ | refine Pw.thenX ?_ | refine Pw.thenR ?_ | refine Pw.ret ?_) | refine Pw.list (Pw.pure rfl rfl rfl ?_) | refine Pw.inY rfl ?_ | refine Pw.list (Pw.off rfl rfl ?_) | refine Pw.condT rfl ?_ | refine Pw.condF rfl ?_)
  exact Pw.retL (x := q) (List.sublist_append_left _ _) (.tmp rfl .nil) rfl hq (fun w h => trivial)
end Go.Proofs.Wk
/- Fractions sorted: slices.SortFunc, SortedFunc at at most twelve. -/
namespace Go.Proofs.Wk
open Go.RowKit
set_option maxRecDepth 100000
set_option maxHeartbeats 1000000
section
variable {P : Program} {w0 : World} {M O : Nat → Prop} {n : Nat} {K : Slots} {L : List Blk} {G : List (World → Prop)} {Q : Exit → Act → World → Prop} {ops : Array Oper}
  {d : Nat} {ty : TypeId} {pos : String} {af : Array Edge} {gd : Option (Nat × Bool)} {N : Act → World → Prop}
/-- A text's byte. -/
theorem Pw.strIx {x ix : Operand} {t : TypeId} {b : ByteArray} {k : IntKind} {i : Int} {v : UInt8} (hx : ev K x = some (.string b)) (hi : ev K ix = some (.int k i)) (ht : P.underlying t = some .string) (h0 : 0 ≤ i) (hv : b[i.toNat]? = some v)
    (hw : wantB K ops gd = some true) (hn : Nat.blt d n = true) (h : Pw w0 M O n ((d, .int .u8 v.toNat) :: K) L G N) : Pw w0 M O n K L G (OpG P ops ⟨some d, .index t x ix, ty, pos, af, gd⟩ N Q) :=
  Pw.stepE hw rfl hn fun a w ha hs => ⟨_, L, G, w, by simp [execOp, ha.eval hx, ha.eval hi, Instr.index, asIntOf, underlying, ht, h0, hv], hs, h⟩
end
attribute [local irreducible] Pw OpG
set_option linter.unusedVariables false
set_option linter.unusedSimpArgs false
theorem u8_lt (n : Int) : 0 ≤ IntKind.u8.wrap n ∧ IntKind.u8.wrap n < 256 := by
  simp [IntKind.wrap, IntKind.bits, IntKind.signed]; omega
theorem Len64_ct (n : Int) (h0 : 0 ≤ n) (h1 : n < 256) : Ct Tryz.prog 90 #[.int .u64 n] (fun _ => True) (fun r : Int => .int .i64 r) (fun _ => True) (fun _ _ => True) := by
  refine Ct.start Tryz.func90 rfl rfl (slots_of rfl slots1) (fun D w0 => ?_)
  repeat (first | (with_reducible first | refine Pw.seq ?_ | refine Pw.region ?_ | refine Pw.nil ?_ | refine Pw.then_ ?_ | refine Pw.skip ?_ | refine Pw.block ?_ | refine Pw.exit ?_ | refine Pw.inX ?_ | refine Pw.inN ?_ | refine Pw.inR ?_ | refine Pw.thenX ?_ | refine Pw.thenR ?_ | refine Pw.ret ?_) | refine Pw.list (Pw.pure rfl rfl rfl ?_) | refine Pw.inY rfl ?_ | refine Pw.list (Pw.off rfl rfl ?_) | refine Pw.condT rfl ?_ | refine Pw.condF rfl ?_ | refine Pw.list (Pw.box rfl rfl rfl rfl (fun _ => ?_)) | refine Pw.list (Pw.alloc rfl rfl rfl rfl rfl (fun _ => ?_)) | refine Pw.list (Pw.build rfl rfl rfl rfl ?_) | refine Pw.list (Pw.ld rfl inferInstance rfl rfl rfl ?_) | refine Pw.list (Pw.sto rfl rfl inferInstance rfl rfl rfl rfl rfl inferInstance rfl ?_))
  refine Pw.condD rfl (fun c => absurd c (by omega)) (fun _ => ?_)
  repeat (first | (with_reducible first | refine Pw.seq ?_ | refine Pw.region ?_ | refine Pw.nil ?_ | refine Pw.then_ ?_ | refine Pw.skip ?_ | refine Pw.block ?_ | refine Pw.exit ?_ | refine Pw.inX ?_ | refine Pw.inN ?_ | refine Pw.inR ?_ | refine Pw.thenX ?_ | refine Pw.thenR ?_ | refine Pw.ret ?_) | refine Pw.list (Pw.pure rfl rfl rfl ?_) | refine Pw.inY rfl ?_ | refine Pw.list (Pw.off rfl rfl ?_) | refine Pw.condT rfl ?_ | refine Pw.condF rfl ?_ | refine Pw.list (Pw.box rfl rfl rfl rfl (fun _ => ?_)) | refine Pw.list (Pw.alloc rfl rfl rfl rfl rfl (fun _ => ?_)) | refine Pw.list (Pw.build rfl rfl rfl rfl ?_) | refine Pw.list (Pw.ld rfl inferInstance rfl rfl rfl ?_) | refine Pw.list (Pw.sto rfl rfl inferInstance rfl rfl rfl rfl rfl inferInstance rfl ?_))
  refine Pw.condD rfl (fun c => absurd c (by omega)) (fun _ => ?_)
  repeat (first | (with_reducible first | refine Pw.seq ?_ | refine Pw.region ?_ | refine Pw.nil ?_ | refine Pw.then_ ?_ | refine Pw.skip ?_ | refine Pw.block ?_ | refine Pw.exit ?_ | refine Pw.inX ?_ | refine Pw.inN ?_ | refine Pw.inR ?_ | refine Pw.thenX ?_ | refine Pw.thenR ?_ | refine Pw.ret ?_) | refine Pw.list (Pw.pure rfl rfl rfl ?_) | refine Pw.inY rfl ?_ | refine Pw.list (Pw.off rfl rfl ?_) | refine Pw.condT rfl ?_ | refine Pw.condF rfl ?_ | refine Pw.list (Pw.box rfl rfl rfl rfl (fun _ => ?_)) | refine Pw.list (Pw.alloc rfl rfl rfl rfl rfl (fun _ => ?_)) | refine Pw.list (Pw.build rfl rfl rfl rfl ?_) | refine Pw.list (Pw.ld rfl inferInstance rfl rfl rfl ?_) | refine Pw.list (Pw.sto rfl rfl inferInstance rfl rfl rfl rfl rfl inferInstance rfl ?_))
  refine Pw.condD rfl (fun c => absurd c (by omega)) (fun _ => ?_)
  repeat (first | (with_reducible first | refine Pw.seq ?_ | refine Pw.region ?_ | refine Pw.nil ?_ | refine Pw.then_ ?_ | refine Pw.skip ?_ | refine Pw.block ?_ | refine Pw.exit ?_ | refine Pw.inX ?_ | refine Pw.inN ?_ | refine Pw.inR ?_ | refine Pw.thenX ?_ | refine Pw.thenR ?_ | refine Pw.ret ?_) | refine Pw.list (Pw.pure rfl rfl rfl ?_) | refine Pw.inY rfl ?_ | refine Pw.list (Pw.off rfl rfl ?_) | refine Pw.condT rfl ?_ | refine Pw.condF rfl ?_ | refine Pw.list (Pw.box rfl rfl rfl rfl (fun _ => ?_)) | refine Pw.list (Pw.alloc rfl rfl rfl rfl rfl (fun _ => ?_)) | refine Pw.list (Pw.build rfl rfl rfl rfl ?_) | refine Pw.list (Pw.ld rfl inferInstance rfl rfl rfl ?_) | refine Pw.list (Pw.sto rfl rfl inferInstance rfl rfl rfl rfl rfl inferInstance rfl ?_))
  obtain ⟨h2, h3⟩ := u8_lt n
  refine Pw.list (Pw.strIx rfl rfl rfl h2 (getElem?_pos _ _ (by show (IntKind.u8.wrap n).toNat < 256; omega)) rfl rfl ?_)
  repeat (first | (with_reducible first | refine Pw.seq ?_ | refine Pw.region ?_ | refine Pw.nil ?_ | refine Pw.then_ ?_ | refine Pw.skip ?_ | refine Pw.block ?_ | refine Pw.exit ?_ | refine Pw.inX ?_ | refine Pw.inN ?_ | refine Pw.inR ?_ | refine Pw.thenX ?_ | refine Pw.thenR ?_ | refine Pw.ret ?_) | refine Pw.list (Pw.pure rfl rfl rfl ?_) | refine Pw.inY rfl ?_ | refine Pw.list (Pw.off rfl rfl ?_) | refine Pw.condT rfl ?_ | refine Pw.condF rfl ?_ | refine Pw.list (Pw.box rfl rfl rfl rfl (fun _ => ?_)) | refine Pw.list (Pw.alloc rfl rfl rfl rfl rfl (fun _ => ?_)) | refine Pw.list (Pw.build rfl rfl rfl rfl ?_) | refine Pw.list (Pw.ld rfl inferInstance rfl rfl rfl ?_) | refine Pw.list (Pw.sto rfl rfl inferInstance rfl rfl rfl rfl rfl inferInstance rfl ?_))
  exact Pw.ret_ (x := _) (.tmp rfl .nil) rfl trivial (fun w h => by trivial)
theorem Len_ct (n : Int) (h0 : 0 ≤ n) (h1 : n < 256) : Ct Tryz.prog 63 #[.int .u64 n] (fun _ => True) (fun r : Int => .int .i64 r) (fun _ => True) (fun _ _ => True) := by
  refine Ct.start Tryz.func63 rfl rfl (slots_of rfl slots1) (fun D w0 => ?_)
  repeat (first | (with_reducible first | refine Pw.seq ?_ | refine Pw.region ?_ | refine Pw.nil ?_ | refine Pw.then_ ?_ | refine Pw.skip ?_ | refine Pw.block ?_ | refine Pw.exit ?_ | refine Pw.inX ?_ | refine Pw.inN ?_ | refine Pw.inR ?_ | refine Pw.thenX ?_ | refine Pw.thenR ?_ | refine Pw.ret ?_) | refine Pw.list (Pw.pure rfl rfl rfl ?_) | refine Pw.inY rfl ?_ | refine Pw.list (Pw.off rfl rfl ?_) | refine Pw.condT rfl ?_ | refine Pw.condF rfl ?_ | refine Pw.list (Pw.box rfl rfl rfl rfl (fun _ => ?_)) | refine Pw.list (Pw.alloc rfl rfl rfl rfl rfl (fun _ => ?_)) | refine Pw.list (Pw.build rfl rfl rfl rfl ?_) | refine Pw.list (Pw.ld rfl inferInstance rfl rfl rfl ?_) | refine Pw.list (Pw.sto rfl rfl inferInstance rfl rfl rfl rfl rfl inferInstance rfl ?_))
  refine Pw.list (Pw.call (Len64_ct n h0 h1) rfl rfl rfl (by kernel_rfl) rfl rfl (fun w h => trivial) ?_)
  intro r _
  repeat (first | (with_reducible first | refine Pw.seq ?_ | refine Pw.region ?_ | refine Pw.nil ?_ | refine Pw.then_ ?_ | refine Pw.skip ?_ | refine Pw.block ?_ | refine Pw.exit ?_ | refine Pw.inX ?_ | refine Pw.inN ?_ | refine Pw.inR ?_ | refine Pw.thenX ?_ | refine Pw.thenR ?_ | refine Pw.ret ?_) | refine Pw.list (Pw.pure rfl rfl rfl ?_) | refine Pw.inY rfl ?_ | refine Pw.list (Pw.off rfl rfl ?_) | refine Pw.condT rfl ?_ | refine Pw.condF rfl ?_ | refine Pw.list (Pw.box rfl rfl rfl rfl (fun _ => ?_)) | refine Pw.list (Pw.alloc rfl rfl rfl rfl rfl (fun _ => ?_)) | refine Pw.list (Pw.build rfl rfl rfl rfl ?_) | refine Pw.list (Pw.ld rfl inferInstance rfl rfl rfl ?_) | refine Pw.list (Pw.sto rfl rfl inferInstance rfl rfl rfl rfl rfl inferInstance rfl ?_))
  exact Pw.ret_ (x := r) (.tmp rfl .nil) rfl trivial (fun w h => by trivial)
theorem pdqR_ct (l : List Rt) (ex : List Value) (g c : Nat) (lim : Int) (hw : ∀ o ∈ l, RtL o) (hl : l.length ≤ 12) (hl0 : 1 ≤ l.length) :
    Ct1 Tryz.prog 62 #[.slice (some ⟨g, 0, none⟩) l.length c, .int .i64 0, .int .i64 l.length, .int .i64 lim, .func (.func 17) #[] #[]] g (row (l.flatMap encR ++ ex) 37) (AllR1 l) (fun _ : Unit => .tuple #[]) Tt (fun _ => row ((insR l.length l).flatMap encR ++ ex) 37) (fun _ _ => True) := by
  refine Ct1.start Tryz.func62 rfl rfl (slots_of (l := [.slice (some ⟨g, 0, none⟩) l.length c, .int .i64 0, .int .i64 l.length, .int .i64 lim, .func (.func 17) #[] #[]]) (K := [(0, .slice (some ⟨g, 0, none⟩) l.length c), (1, .int .i64 0), (2, .int .i64 l.length), (4, .func (.func 17) #[] #[])]) rfl (fun d v h => by
    rcases slots_cons (l := []) d v h with ⟨rfl, rfl⟩ | h
    · rfl
    · rcases slots_cons (l := []) d v h with ⟨rfl, rfl⟩ | h
      · rfl
      · rcases slots_cons (l := []) d v h with ⟨rfl, rfl⟩ | h
        · rfl
        · rcases slots_cons (l := []) d v h with ⟨rfl, rfl⟩ | h
          · rfl
          · cases h)) (fun D w0 hD => ?_)
  repeat (first | (with_reducible first | refine Pw.seq ?_ | refine Pw.region ?_ | refine Pw.nil ?_ | refine Pw.then_ ?_ | refine Pw.skip ?_ | refine Pw.block ?_ | refine Pw.exit ?_ | refine Pw.inX ?_ | refine Pw.inN ?_ | refine Pw.inR ?_ | refine Pw.thenX ?_ | refine Pw.thenR ?_ | refine Pw.ret ?_) | refine Pw.list (Pw.pure rfl rfl rfl ?_) | refine Pw.inY rfl ?_ | refine Pw.list (Pw.off rfl rfl ?_) | refine Pw.condT rfl ?_ | refine Pw.condF rfl ?_ | refine Pw.list (Pw.box rfl rfl rfl rfl (fun _ => ?_)) | refine Pw.list (Pw.alloc rfl rfl rfl rfl rfl (fun _ => ?_)) | refine Pw.list (Pw.build rfl rfl rfl rfl ?_) | refine Pw.list (Pw.ld rfl inferInstance rfl rfl rfl ?_) | refine Pw.list (Pw.sto rfl rfl inferInstance rfl rfl rfl rfl rfl inferInstance rfl ?_))
  refine Pw.rounds 2 (Pw.round ?_)
  repeat (first | (with_reducible first | refine Pw.seq ?_ | refine Pw.region ?_ | refine Pw.nil ?_ | refine Pw.then_ ?_ | refine Pw.skip ?_ | refine Pw.block ?_ | refine Pw.exit ?_ | refine Pw.inX ?_ | refine Pw.inN ?_ | refine Pw.inR ?_ | refine Pw.thenX ?_ | refine Pw.thenR ?_ | refine Pw.ret ?_) | refine Pw.list (Pw.pure rfl rfl rfl ?_) | refine Pw.inY rfl ?_ | refine Pw.list (Pw.off rfl rfl ?_) | refine Pw.condT rfl ?_ | refine Pw.condF rfl ?_ | refine Pw.list (Pw.box rfl rfl rfl rfl (fun _ => ?_)) | refine Pw.list (Pw.alloc rfl rfl rfl rfl rfl (fun _ => ?_)) | refine Pw.list (Pw.build rfl rfl rfl rfl ?_) | refine Pw.list (Pw.ld rfl inferInstance rfl rfl rfl ?_) | refine Pw.list (Pw.sto rfl rfl inferInstance rfl rfl rfl rfl rfl inferInstance rfl ?_))
  refine Pw.re (d := 24) (v' := .int .i64 l.length) rfl (congrArg (Value.int .i64) (by rw [wi64 (by omega) (by omega)]; omega)) ?_
  refine Pw.re (d := 25) (v' := .bool true) rfl (congrArg Value.bool (decide_eq_true (by rw [wi64 (by omega) (by omega)]; omega))) ?_
  repeat (first | (with_reducible first | refine Pw.seq ?_ | refine Pw.region ?_ | refine Pw.nil ?_ | refine Pw.then_ ?_ | refine Pw.skip ?_ | refine Pw.block ?_ | refine Pw.exit ?_ | refine Pw.inX ?_ | refine Pw.inN ?_ | refine Pw.inR ?_ | refine Pw.thenX ?_ | refine Pw.thenR ?_ | refine Pw.ret ?_) | refine Pw.list (Pw.pure rfl rfl rfl ?_) | refine Pw.inY rfl ?_ | refine Pw.list (Pw.off rfl rfl ?_) | refine Pw.condT rfl ?_ | refine Pw.condF rfl ?_ | refine Pw.list (Pw.box rfl rfl rfl rfl (fun _ => ?_)) | refine Pw.list (Pw.alloc rfl rfl rfl rfl rfl (fun _ => ?_)) | refine Pw.list (Pw.build rfl rfl rfl rfl ?_) | refine Pw.list (Pw.ld rfl inferInstance rfl rfl rfl ?_) | refine Pw.list (Pw.sto rfl rfl inferInstance rfl rfl rfl rfl rfl inferInstance rfl ?_))
  refine Pw.list (Pw.call1 (insertionR_ct l ex g c l.length hw (Nat.le_refl _) (by omega) hl0) rfl rfl rfl (by kernel_rfl) rfl rfl (fun w h => (hv w h)) (.head _) (fun _ => .head) ?_)
  intro _ _
  repeat (first | (with_reducible first | refine Pw.seq ?_ | refine Pw.region ?_ | refine Pw.nil ?_ | refine Pw.then_ ?_ | refine Pw.skip ?_ | refine Pw.block ?_ | refine Pw.exit ?_ | refine Pw.inX ?_ | refine Pw.inN ?_ | refine Pw.inR ?_ | refine Pw.thenX ?_ | refine Pw.thenR ?_ | refine Pw.ret ?_) | refine Pw.list (Pw.pure rfl rfl rfl ?_) | refine Pw.inY rfl ?_ | refine Pw.list (Pw.off rfl rfl ?_) | refine Pw.condT rfl ?_ | refine Pw.condF rfl ?_ | refine Pw.list (Pw.box rfl rfl rfl rfl (fun _ => ?_)) | refine Pw.list (Pw.alloc rfl rfl rfl rfl rfl (fun _ => ?_)) | refine Pw.list (Pw.build rfl rfl rfl rfl ?_) | refine Pw.list (Pw.ld rfl inferInstance rfl rfl rfl ?_) | refine Pw.list (Pw.sto rfl rfl inferInstance rfl rfl rfl rfl rfl inferInstance rfl ?_))
  exact Pw.ret1 (x := ()) hD (.head _) .nil rfl trivial (fun w h => by trivial)
theorem SortFuncR_ct (l : List Rt) (ex : List Value) (g c : Nat) (hw : ∀ o ∈ l, RtL o) (hl : l.length ≤ 12) (hl0 : 1 ≤ l.length) :
    Ct1 Tryz.prog 37 #[.slice (some ⟨g, 0, none⟩) l.length c, .func (.func 17) #[] #[]] g (row (l.flatMap encR ++ ex) 37) (AllR1 l) (fun _ : Unit => .tuple #[]) Tt (fun _ => row ((insR l.length l).flatMap encR ++ ex) 37) (fun _ _ => True) := by
  refine Ct1.start Tryz.func37 rfl rfl (slots_of rfl slots2) (fun D w0 hD => ?_)
  repeat (first | (with_reducible first | refine Pw.seq ?_ | refine Pw.region ?_ | refine Pw.nil ?_ | refine Pw.then_ ?_ | refine Pw.skip ?_ | refine Pw.block ?_ | refine Pw.exit ?_ | refine Pw.inX ?_ | refine Pw.inN ?_ | refine Pw.inR ?_ | refine Pw.thenX ?_ | refine Pw.thenR ?_ | refine Pw.ret ?_) | refine Pw.list (Pw.pure rfl rfl rfl ?_) | refine Pw.inY rfl ?_ | refine Pw.list (Pw.off rfl rfl ?_) | refine Pw.condT rfl ?_ | refine Pw.condF rfl ?_ | refine Pw.list (Pw.box rfl rfl rfl rfl (fun _ => ?_)) | refine Pw.list (Pw.alloc rfl rfl rfl rfl rfl (fun _ => ?_)) | refine Pw.list (Pw.build rfl rfl rfl rfl ?_) | refine Pw.list (Pw.ld rfl inferInstance rfl rfl rfl ?_) | refine Pw.list (Pw.sto rfl rfl inferInstance rfl rfl rfl rfl rfl inferInstance rfl ?_))
  refine Pw.re (d := 10) (v' := .int .u64 l.length) rfl (congrArg (Value.int .u64) (wu (by omega) (by omega))) ?_
  refine Pw.list (Pw.call (Len_ct l.length (by omega) (by omega)) rfl rfl rfl (by kernel_rfl) rfl rfl (fun w h => trivial) ?_)
  intro lim _
  repeat (first | (with_reducible first | refine Pw.seq ?_ | refine Pw.region ?_ | refine Pw.nil ?_ | refine Pw.then_ ?_ | refine Pw.skip ?_ | refine Pw.block ?_ | refine Pw.exit ?_ | refine Pw.inX ?_ | refine Pw.inN ?_ | refine Pw.inR ?_ | refine Pw.thenX ?_ | refine Pw.thenR ?_ | refine Pw.ret ?_) | refine Pw.list (Pw.pure rfl rfl rfl ?_) | refine Pw.inY rfl ?_ | refine Pw.list (Pw.off rfl rfl ?_) | refine Pw.condT rfl ?_ | refine Pw.condF rfl ?_ | refine Pw.list (Pw.box rfl rfl rfl rfl (fun _ => ?_)) | refine Pw.list (Pw.alloc rfl rfl rfl rfl rfl (fun _ => ?_)) | refine Pw.list (Pw.build rfl rfl rfl rfl ?_) | refine Pw.list (Pw.ld rfl inferInstance rfl rfl rfl ?_) | refine Pw.list (Pw.sto rfl rfl inferInstance rfl rfl rfl rfl rfl inferInstance rfl ?_))
  refine Pw.list (Pw.call1 (pdqR_ct l ex g c lim hw hl hl0) rfl rfl rfl (by kernel_rfl) rfl rfl (fun w h => (hv w h)) (.head _) (fun _ => .head) ?_)
  intro _ _
  repeat (first | (with_reducible first | refine Pw.seq ?_ | refine Pw.region ?_ | refine Pw.nil ?_ | refine Pw.then_ ?_ | refine Pw.skip ?_ | refine Pw.block ?_ | refine Pw.exit ?_ | refine Pw.inX ?_ | refine Pw.inN ?_ | refine Pw.inR ?_ | refine Pw.thenX ?_ | refine Pw.thenR ?_ | refine Pw.ret ?_) | refine Pw.list (Pw.pure rfl rfl rfl ?_) | refine Pw.inY rfl ?_ | refine Pw.list (Pw.off rfl rfl ?_) | refine Pw.condT rfl ?_ | refine Pw.condF rfl ?_ | refine Pw.list (Pw.box rfl rfl rfl rfl (fun _ => ?_)) | refine Pw.list (Pw.alloc rfl rfl rfl rfl rfl (fun _ => ?_)) | refine Pw.list (Pw.build rfl rfl rfl rfl ?_) | refine Pw.list (Pw.ld rfl inferInstance rfl rfl rfl ?_) | refine Pw.list (Pw.sto rfl rfl inferInstance rfl rfl rfl rfl rfl inferInstance rfl ?_))
  exact Pw.ret1N (x := ()) hD (.head _) .nil rfl trivial (fun w h => by trivial)
theorem insR_len (i : Nat) (l : List Rt) : (insR i l).length = l.length := by
  have hs : ∀ (j : Nat) (l : List Rt), (sinkR j l).length = l.length := by
    intro j
    induction j with
    | zero => intro l; rfl
    | succ j ih =>
      intro l
      unfold sinkR
      split
      · split
        · rw [ih, swapR_len]
        · rfl
      · rfl
  induction i with
  | zero => rfl
  | succ i ih => rw [insR_succ, hs, ih]
theorem SortedFuncR_ct (l : List Rt) (x : Option Addr × Nat) (g : Nat) (hw : ∀ o ∈ l, RtL o) (hl : l.length ≤ 12) (hl0 : 1 ≤ l.length) (hp : ∀ o ∈ insR l.length l, o ∈ l) :
    Ct Tryz.prog 15 #[vfR g, .func (.func 17) #[] #[]] (preR l x g) (fun z : Option Addr × Nat => rsV (insR l.length l) z) Tt (fun z => RS (insR l.length l) z) := by
  refine Ct.start Tryz.func15 rfl rfl (slots_of rfl slots2) (fun D w0 => ?_)
  repeat (first | (with_reducible first | refine Pw.seq ?_ | refine Pw.region ?_ | refine Pw.nil ?_ | refine Pw.then_ ?_ | refine Pw.skip ?_ | refine Pw.block ?_ | refine Pw.exit ?_ | refine Pw.inX ?_ | refine Pw.inN ?_ | refine Pw.inR ?_ | refine Pw.thenX ?_ | refine Pw.thenR ?_ | refine Pw.ret ?_) | refine Pw.list (Pw.pure rfl rfl rfl ?_) | refine Pw.inY rfl ?_ | refine Pw.list (Pw.off rfl rfl ?_) | refine Pw.condT rfl ?_ | refine Pw.condF rfl ?_)
  refine Pw.list (Pw.callL (CollectR_ct l x g (by omega)) rfl rfl rfl (by kernel_rfl) rfl rfl (fun w h => fact0 h) ?_)
  intro q hq
  obtain _ | ⟨g2, cap2, ex2⟩ := q
  · have := hq.1; omega
  refine Pw.facts (G' := [AllR1 l]) (fun w h => allCons (fun o ho => by
    obtain ⟨j, hj⟩ := List.getElem?_of_mem ho
    have h1 : RS l x w := (fact1 h).2
    obtain ⟨ad, cs, _, _, ⟨_, h2⟩, _⟩ := h1.2.2 j o hj
    exact h2) allNil) ?_
  repeat (first | (with_reducible first | refine Pw.seq ?_ | refine Pw.region ?_ | refine Pw.nil ?_ | refine Pw.then_ ?_ | refine Pw.skip ?_ | refine Pw.block ?_ | refine Pw.exit ?_ | refine Pw.inX ?_ | refine Pw.inN ?_ | refine Pw.inR ?_ | refine Pw.thenX ?_ | refine Pw.thenR ?_ | refine Pw.ret ?_) | refine Pw.list (Pw.pure rfl rfl rfl ?_) | refine Pw.inY rfl ?_ | refine Pw.list (Pw.off rfl rfl ?_) | refine Pw.condT rfl ?_ | refine Pw.condF rfl ?_)
  refine Pw.list (Pw.call1 (SortFuncR_ct l ex2 g2 cap2 hw hl hl0) rfl rfl rfl (by kernel_rfl) rfl rfl (fun w h => (hv w h)) (.head _) (fun _ => .head) ?_)
  intro _ _
  repeat (first | (with_reducible first | refine Pw.seq ?_ | refine Pw.region ?_ | refine Pw.nil ?_ | refine Pw.then_ ?_ | refine Pw.skip ?_ | refine Pw.block ?_ | refine Pw.exit ?_ | refine Pw.inX ?_ | refine Pw.inN ?_ | refine Pw.inR ?_ | refine Pw.thenX ?_ | refine Pw.thenR ?_ | refine Pw.ret ?_) | refine Pw.list (Pw.pure rfl rfl rfl ?_) | refine Pw.inY rfl ?_ | refine Pw.list (Pw.off rfl rfl ?_) | refine Pw.condT rfl ?_ | refine Pw.condF rfl ?_)
  refine freeHead ?_
  exact Pw.ret_ (x := (some ⟨g2, 0, none⟩, cap2)) (.tmp rfl .nil) (by show Value.slice _ l.length cap2 = Value.slice _ (insR l.length l).length cap2; rw [insR_len]) trivial (fun w h => rows_of_row (fact0 h) (fun _ _ => rfl) (fun o ho => (hv w h : AllR1 l w) o (hp o ho)) (by rw [insR_len]; exact hq.2.1) (by rw [insR_len]; simp only [maxLen]; omega) (by omega))
end Go.Proofs.Wk
/- A stake given anew: the level to which it raises. The plain law. -/
namespace Go.Proofs.Wk
set_option linter.unusedVariables false
set_option linter.unusedSimpArgs false
/-- What one gets, at a level. -/
def gn (v s : Rat) : Rat := if s < v then v - s else 0
def sumR : List Rat → Rat
  | [] => 0
  | x :: r => x + sumR r
def gain (ws : List Rat) (v : Rat) : Rat := sumR (ws.map (gn v))
/-- The level that a stake reaches. -/
structure Lev (ws : List Rat) (st v : Rat) : Prop where
  low : ∃ s ∈ ws, s ≤ v
  fill : gain ws v = st
theorem sumR_perm {a b : List Rat} (h : a.Perm b) : sumR a = sumR b := by
  induction h with
  | nil => rfl
  | cons x _ ih => simp only [sumR, ih]
  | swap x y l => simp only [sumR]; grind
  | trans _ _ i1 i2 => exact i1.trans i2
theorem sumR_append (a b : List Rat) : sumR (a ++ b) = sumR a + sumR b := by
  induction a with
  | nil => simp only [List.nil_append, sumR]; grind
  | cons x r ih => simp only [List.cons_append, sumR, ih]; grind
theorem gain_perm {a b : List Rat} (h : a.Perm b) (v : Rat) : gain a v = gain b v := sumR_perm (h.map _)
theorem gn_nn (v s : Rat) : 0 ≤ gn v s := by unfold gn; grind
theorem gn_mono {v u s : Rat} (h : v ≤ u) : gn v s ≤ gn u s := by unfold gn; grind
theorem gn_lt {v u s : Rat} (h : v < u) (hs : s ≤ v) : gn v s < gn u s := by unfold gn; grind
theorem gain_mono {ws : List Rat} {v u : Rat} (h : v ≤ u) : gain ws v ≤ gain ws u := by
  unfold gain
  induction ws with
  | nil => exact Rat.le_refl
  | cons x r ih => simp only [List.map_cons, sumR]; have := gn_mono (s := x) h; grind
theorem gain_lt {ws : List Rat} {v u s : Rat} (h : v < u) (hs : s ≤ v) (hm : s ∈ ws) : gain ws v < gain ws u := by
  unfold gain
  induction ws with
  | nil => cases hm
  | cons x r ih =>
    simp only [List.map_cons, sumR]
    rcases List.mem_cons.1 hm with rfl | hm
    · have h1 := gn_lt h hs
      have h2 : gain r v ≤ gain r u := gain_mono (Rat.le_of_lt h)
      unfold gain at h2; grind
    · have h1 := ih hm
      have h2 := gn_mono (s := x) (Rat.le_of_lt h)
      grind
theorem gain_all {ws : List Rat} {v : Rat} (h : ∀ s ∈ ws, s ≤ v) : gain ws v = (ws.length : Int) * v - sumR ws := by
  unfold gain
  induction ws with
  | nil => simp only [List.map_nil, sumR, List.length_nil]; have e : (((0 : Nat) : Int) : Rat) = 0 := rfl; rw [e]; grind
  | cons x r ih =>
    simp only [List.map_cons, sumR, List.length_cons]
    have h1 := ih (fun s hs => h s (List.mem_cons_of_mem _ hs))
    have h2 : gn v x = v - x := by have := h x (List.mem_cons_self ..); unfold gn; grind
    rw [h1, h2, Int.natCast_add, Rat.intCast_add]
    have e : (((1 : Nat) : Int) : Rat) = 1 := rfl
    rw [e]; grind
theorem gain_none {ws : List Rat} {v : Rat} (h : ∀ s ∈ ws, v ≤ s) : gain ws v = 0 := by
  unfold gain
  induction ws with
  | nil => rfl
  | cons x r ih =>
    simp only [List.map_cons, sumR]
    have h1 := ih (fun s hs => h s (List.mem_cons_of_mem _ hs))
    have h2 : gn v x = 0 := by have := h x (List.mem_cons_self ..); unfold gn; grind
    rw [h1, h2]; grind
theorem gain_append (a b : List Rat) (v : Rat) : gain (a ++ b) v = gain a v + gain b v := by unfold gain; rw [List.map_append, sumR_append]
/-! ### The flood -/
/-- Behind the first j of supports that rise. -/
structure Fld (so : List Rat) (st : Rat) (j : Nat) (v : Rat) : Prop where
  sum : v * (j : Int) = st + sumR (so.take j)
  le : ∀ s ∈ so.take j, s ≤ v
theorem sumR_snoc {l : List Rat} {j : Nat} {s : Rat} (h : l[j]? = some s) : sumR (l.take (j + 1)) = sumR (l.take j) + s := by
  rw [take_snoc h, sumR_append]; simp only [sumR]; grind
theorem fld_next {so : List Rat} {st v s : Rat} {j : Nat} (hso : so.Pairwise (· ≤ ·)) (hs : so[j]? = some s) (h : Fld so st j v) (hlt : s < v) : Fld so st (j + 1) ((st + sumR (so.take j) + s) / ((j + 1 : Nat) : Int)) := by
  have hj : (0 : Rat) ≤ ((j : Int) : Rat) := Rat.intCast_nonneg.2 (by omega)
  have e1 : (((j + 1 : Nat) : Int) : Rat) = ((j : Int) : Rat) + 1 := by rw [Int.natCast_add, Rat.intCast_add]; rfl
  have hne : (((j + 1 : Nat) : Int) : Rat) ≠ 0 := by rw [e1]; grind
  have hm : (st + sumR (so.take j) + s) / ((j + 1 : Nat) : Int) * ((j + 1 : Nat) : Int) = st + sumR (so.take j) + s := Rat.div_mul_cancel hne
  have hge : s ≤ (st + sumR (so.take j) + s) / ((j + 1 : Nat) : Int) := by
    have h1 := h.sum
    have h2 : s * (j : Int) ≤ v * (j : Int) := Rat.mul_le_mul_of_nonneg_right (Rat.le_of_lt hlt) hj
    have h3 : s * (((j + 1 : Nat) : Int) : Rat) ≤ (st + sumR (so.take j) + s) / ((j + 1 : Nat) : Int) * ((j + 1 : Nat) : Int) := by
      rw [hm, e1, Rat.mul_add, Rat.mul_one]; grind
    exact Rat.le_of_mul_le_mul_right h3 (by rw [e1]; grind)
  refine ⟨by rw [hm, sumR_snoc hs]; grind, fun t ht => ?_⟩
  rw [take_snoc hs] at ht
  rcases List.mem_append.1 ht with ht | ht
  · obtain ⟨i, hi⟩ := List.getElem?_of_mem ht
    rw [List.getElem?_take] at hi
    split at hi
    · obtain ⟨q1, q2⟩ := List.getElem?_eq_some_iff.1 hi
      obtain ⟨q3, q4⟩ := List.getElem?_eq_some_iff.1 hs
      have := List.pairwise_iff_getElem.1 hso i j q1 q3 (by omega)
      rw [q2, q4] at this
      exact Rat.le_trans this hge
    · cases hi
  · rw [List.mem_singleton.1 ht]; exact hge
theorem fld_first {so : List Rat} {st s : Rat} (hs : so[0]? = some s) (h0 : 0 ≤ st) : Fld so st 1 (st + s) := by
  have e : so.take 1 = [s] := by have := take_snoc hs; simpa using this
  refine ⟨by rw [e]; simp only [sumR]; have e1 : (((1 : Nat) : Int) : Rat) = 1 := rfl; rw [e1]; grind, fun t ht => ?_⟩
  rw [e] at ht; rw [List.mem_singleton.1 ht]; grind
theorem fld_end {so ws : List Rat} {st v : Rat} {j : Nat} (hp : so.Perm ws) (hso : so.Pairwise (· ≤ ·)) (hj : 0 < j) (hjl : j ≤ so.length) (h : Fld so st j v) (hend : ∀ s, so[j]? = some s → v ≤ s) : Lev ws st v := by
  constructor
  · obtain ⟨s, hs, hm⟩ := get_at (show 0 < so.length by omega)
    exact ⟨s, hp.mem_iff.1 hm, h.le s (List.mem_of_getElem? (show (so.take j)[0]? = some s by rw [List.getElem?_take, if_pos hj]; exact hs))⟩
  · rw [← gain_perm hp]
    conv => lhs; rw [← List.take_append_drop j so]
    have h1 := h.sum
    rw [gain_append, gain_all h.le, gain_none (ws := so.drop j) (fun s hs => ?_)]
    · rw [List.length_take, Nat.min_eq_left hjl]
      rw [Rat.mul_comm]; grind
    · obtain ⟨i, hi⟩ := List.getElem?_of_mem hs
      rw [List.getElem?_drop] at hi
      rcases Nat.eq_zero_or_pos i with rfl | h0
      · exact hend s hi
      · obtain ⟨q1, q2⟩ := List.getElem?_eq_some_iff.1 hi
        have hjl2 : j < so.length := by omega
        have := List.pairwise_iff_getElem.1 hso j (j + i) hjl2 q1 (by omega)
        rw [q2] at this
        exact Rat.le_trans (hend _ (List.getElem?_eq_getElem hjl2)) this
/-! ### The document's level -/
/-- Those that are at most as high. -/
def below (ws : List Rat) (v : Rat) : List Rat := ws.filter fun s => decide (s ≤ v)
/-- The level at which just those get the stake. -/
def lvl (ws : List Rat) (st v : Rat) : Rat := (st + sumR (below ws v)) / (((below ws v).length : Nat) : Int)
theorem below_pos {ws : List Rat} {v : Rat} (h : v ∈ ws) : 0 < (below ws v).length := List.length_pos_of_mem (List.mem_filter.2 ⟨h, by simp [Rat.le_refl]⟩)
theorem len_ne {n : Nat} (h : 0 < n) : (((n : Nat) : Int) : Rat) ≠ 0 := fun e => by
  have h1 := Rat.intCast_eq_zero_iff.1 e
  omega
theorem lvl_mul {ws : List Rat} {st v : Rat} (h : v ∈ ws) : lvl ws st v * (((below ws v).length : Nat) : Int) = st + sumR (below ws v) := Rat.div_mul_cancel (len_ne (below_pos h))
theorem gain_below {ws : List Rat} {v u : Rat} : gain (below ws v) u ≤ gain ws u := by
  unfold gain below
  induction ws with
  | nil => exact Rat.le_refl
  | cons x r ih =>
    have := gn_nn u x
    by_cases hx : x ≤ v
    · rw [List.filter_cons_of_pos (by simpa using hx)]; simp only [List.map_cons, sumR]; grind
    · rw [List.filter_cons_of_neg (by simpa using hx)]; simp only [List.map_cons, sumR]; grind
theorem lvl_ge {ws : List Rat} {st v u : Rat} (h : Lev ws st u) (hv : v ∈ ws) (hok : v ≤ lvl ws st v) : u ≤ lvl ws st v := by
  by_cases hlt : lvl ws st v < u
  · exfalso
    have h1 := gain_lt hlt hok hv
    have h2 : gain (below ws v) (lvl ws st v) ≤ gain ws (lvl ws st v) := gain_below
    have h3 := gain_all (ws := below ws v) (v := lvl ws st v) (fun s hs => by
      have := (List.mem_filter.1 hs).2
      simp only [decide_eq_true_eq] at this
      exact Rat.le_trans this hok)
    have h4 := lvl_mul (st := st) hv
    have h5 := h.fill
    rw [Rat.mul_comm] at h4
    grind
  · grind
theorem max_ex {v : Rat} : ∀ {l : List Rat}, (∃ s ∈ l, s ≤ v) → ∃ m ∈ l, m ≤ v ∧ ∀ s ∈ l, s ≤ v → s ≤ m
  | [], h => by obtain ⟨s, hs, _⟩ := h; cases hs
  | x :: r, h => by
    by_cases hr : ∃ s ∈ r, s ≤ v
    · obtain ⟨m, hm, hmv, hall⟩ := max_ex hr
      by_cases hx : x ≤ v ∧ m < x
      · refine ⟨x, List.mem_cons_self .., hx.1, fun s hs hsv => ?_⟩
        rcases List.mem_cons.1 hs with rfl | hs
        · exact Rat.le_refl
        · exact Rat.le_trans (hall s hs hsv) (Rat.le_of_lt hx.2)
      · refine ⟨m, List.mem_cons_of_mem _ hm, hmv, fun s hs hsv => ?_⟩
        rcases List.mem_cons.1 hs with rfl | hs
        · grind
        · exact hall s hs hsv
    · obtain ⟨s, hs, hsv⟩ := h
      rcases List.mem_cons.1 hs with rfl | hs
      · refine ⟨s, List.mem_cons_self .., hsv, fun t ht htv => ?_⟩
        rcases List.mem_cons.1 ht with rfl | ht
        · exact Rat.le_refl
        · exact absurd ⟨t, ht, htv⟩ hr
      · exact absurd ⟨s, hs, hsv⟩ hr
theorem lvl_eq {ws : List Rat} {st u : Rat} (h : Lev ws st u) : ∃ v ∈ ws, v ≤ lvl ws st v ∧ lvl ws st v = u := by
  obtain ⟨m, hm, hmu, hall⟩ := max_ex h.low
  have hb : below ws m = below ws u := by
    unfold below
    refine List.filter_congr (fun s hs => ?_)
    by_cases h1 : s ≤ u
    · have := hall s hs h1; simp [h1, this]
    · have : ¬ s ≤ m := fun e => h1 (Rat.le_trans e hmu)
      simp [h1, this]
  have h1 := lvl_mul (st := st) hm
  have h2 : gain (below ws m) u = st := by
    rw [hb, ← h.fill]
    unfold gain below
    clear hb h1 hall hmu hm h
    induction ws with
    | nil => rfl
    | cons x r ih =>
      by_cases hx : x ≤ u
      · rw [List.filter_cons_of_pos (by simpa using hx)]; simp only [List.map_cons, sumR, ih]
      · rw [List.filter_cons_of_neg (by simpa using hx)]; simp only [List.map_cons, sumR, ih]
        have : gn u x = 0 := by unfold gn; grind
        rw [this]; grind
  have h3 := gain_all (ws := below ws m) (v := u) (fun s hs => by
    rw [hb] at hs
    have := (List.mem_filter.1 hs).2
    simpa using this)
  have hp := len_ne (below_pos hm)
  have e : lvl ws st m = u := by
    have h4 : lvl ws st m * (((below ws m).length : Nat) : Int) = u * (((below ws m).length : Nat) : Int) := by rw [h1, Rat.mul_comm u]; grind
    have h5 := congrArg (· / ((((below ws m).length : Nat) : Int) : Rat)) h4
    simp only [Rat.mul_div_cancel hp] at h5
    exact h5
  exact ⟨m, hm, by rw [e]; exact hmu, e⟩
/-- The document's level behind the first i supports. -/
def Rlv (ws : List Rat) (st : Rat) (i : Nat) (b : Option Rat) : Prop := match b with
  | none => ∀ j s, j < i → ws[j]? = some s → ¬ s ≤ lvl ws st s
  | some x => (∃ j s, j < i ∧ ws[j]? = some s ∧ s ≤ lvl ws st s ∧ x = lvl ws st s) ∧ ∀ j s, j < i → ws[j]? = some s → s ≤ lvl ws st s → x ≤ lvl ws st s
theorem rlv_0 (ws : List Rat) (st : Rat) : Rlv ws st 0 none := fun j s h => absurd h (Nat.not_lt_zero j)
theorem rlv_no {ws : List Rat} {st s : Rat} {i : Nat} {b : Option Rat} (h : Rlv ws st i b) (hs : ws[i]? = some s) (hn : ¬ s ≤ lvl ws st s) : Rlv ws st (i + 1) b := by
  cases b with
  | none =>
    intro j t hj ht
    rcases Nat.lt_or_ge j i with h1 | h1
    · exact h j t h1 ht
    · obtain rfl : j = i := by omega
      rw [hs] at ht; cases ht; exact hn
  | some x =>
    obtain ⟨⟨j, t, h1, h2, h3, h4⟩, h5⟩ := h
    refine ⟨⟨j, t, by omega, h2, h3, h4⟩, fun k u hk hu hok => ?_⟩
    rcases Nat.lt_or_ge k i with h6 | h6
    · exact h5 k u h6 hu hok
    · obtain rfl : k = i := by omega
      rw [hs] at hu; cases hu; exact absurd hok hn
theorem rlv_new {ws : List Rat} {st s : Rat} {i : Nat} {b : Option Rat} (h : Rlv ws st i b) (hs : ws[i]? = some s) (hy : s ≤ lvl ws st s) (hb : ∀ x, b = some x → lvl ws st s < x) : Rlv ws st (i + 1) (some (lvl ws st s)) := by
  refine ⟨⟨i, s, by omega, hs, hy, rfl⟩, fun k u hk hu hok => ?_⟩
  rcases Nat.lt_or_ge k i with h6 | h6
  · cases b with
    | none => exact absurd hok (h k u h6 hu)
    | some x =>
      have h1 := hb x rfl
      exact Rat.le_trans (Rat.le_of_lt h1) (h.2 k u h6 hu hok)
  · obtain rfl : k = i := by omega
    rw [hs] at hu; cases hu; exact Rat.le_refl
theorem rlv_keep {ws : List Rat} {st s x : Rat} {i : Nat} (h : Rlv ws st i (some x)) (hs : ws[i]? = some s) (hb : ¬ lvl ws st s < x) : Rlv ws st (i + 1) (some x) := by
  obtain ⟨⟨j, t, h1, h2, h3, h4⟩, h5⟩ := h
  refine ⟨⟨j, t, by omega, h2, h3, h4⟩, fun k u hk hu hok => ?_⟩
  rcases Nat.lt_or_ge k i with h6 | h6
  · exact h5 k u h6 hu hok
  · obtain rfl : k = i := by omega
    rw [hs] at hu; cases hu; grind
theorem rlv_end {ws : List Rat} {st u : Rat} {b : Option Rat} (hl : Lev ws st u) (h : Rlv ws st ws.length b) : b = some u := by
  obtain ⟨v, hv, hok, e⟩ := lvl_eq hl
  obtain ⟨j, hj⟩ := List.getElem?_of_mem hv
  have hjl := (List.getElem?_eq_some_iff.1 hj).1
  cases b with
  | none => exact absurd hok (h j v hjl hj)
  | some x =>
    obtain ⟨⟨k, t, h1, h2, h3, h4⟩, h5⟩ := h
    have h6 := h5 j v hjl hj hok
    have h7 := lvl_ge hl (List.mem_of_getElem? h2) h3
    rw [e] at h6
    rw [← h4] at h7
    congr 1; grind
theorem rlv_val {ws : List Rat} {st x : Rat} {i : Nat} (h : Rlv ws st i (some x)) : ∃ s ∈ ws, x = lvl ws st s ∧ s ≤ x := by
  obtain ⟨⟨j, t, h1, h2, h3, h4⟩, _⟩ := h
  exact ⟨t, List.mem_of_getElem? h2, h4, by rw [h4]; exact h3⟩
/-! ### Over one denominator -/
def Mult (D : Nat) (x : Rat) : Prop := ∃ k : Int, x * (D : Int) = k
theorem mult_add {D : Nat} {x y : Rat} (hx : Mult D x) (hy : Mult D y) : Mult D (x + y) := by
  obtain ⟨a, ha⟩ := hx; obtain ⟨b, hb⟩ := hy
  exact ⟨a + b, by rw [Rat.add_mul, ha, hb, Rat.intCast_add]⟩
theorem mult_sub {D : Nat} {x y : Rat} (hx : Mult D x) (hy : Mult D y) : Mult D (x - y) := by
  obtain ⟨a, ha⟩ := hx; obtain ⟨b, hb⟩ := hy
  exact ⟨a - b, by rw [Rat.intCast_sub, ← ha, ← hb]; grind⟩
theorem mult_int (D : Nat) (k : Int) : Mult D (k : Rat) := ⟨k * D, by rw [Rat.intCast_mul]⟩
theorem mult_more {D : Nat} {x : Rat} (h : Mult D x) (E : Nat) : Mult (E * D) x := by
  obtain ⟨a, ha⟩ := h
  exact ⟨E * a, by rw [Int.natCast_mul, Rat.intCast_mul, Rat.intCast_mul, ← ha]; grind⟩
theorem mult_div {D E n : Nat} {x : Rat} (h : Mult D x) (hn : 0 < n) (hE : n ∣ E) : Mult (E * D) (x / (n : Int)) := by
  obtain ⟨a, ha⟩ := h
  obtain ⟨c, rfl⟩ := hE
  have hne := len_ne hn
  refine ⟨c * a, ?_⟩
  rw [Int.natCast_mul, Int.natCast_mul, Rat.intCast_mul, Rat.intCast_mul, Rat.intCast_mul, ← ha]
  have : x / ((n : Int) : Rat) * ((n : Int) : Rat) = x := Rat.div_mul_cancel hne
  grind
theorem num_den (x : Rat) : x * ((x.den : Int) : Rat) = (x.num : Int) := by
  have hd : ((x.den : Int) : Rat) ≠ 0 := len_ne (by have := x.den_nz; omega)
  have h : ((x.num : Int) : Rat) / ((x.den : Int) : Rat) = x := by rw [← Rat.divInt_eq_div, Rat.num_divInt_den]
  have h2 : ((x.num : Int) : Rat) / ((x.den : Int) : Rat) * ((x.den : Int) : Rat) = ((x.num : Int) : Rat) := Rat.div_mul_cancel hd
  rwa [h] at h2
theorem mult_self (x : Rat) : Mult x.den x := ⟨x.num, num_den x⟩
theorem mult_den {D : Nat} {x : Rat} (h : Mult D x) (hD : 0 < D) : x.den ∣ D := by
  obtain ⟨k, hk⟩ := h
  have hx := num_den x
  have e : x.num * (D : Int) = k * (x.den : Int) := by
    have h1 : ((x.num * (D : Int) : Int) : Rat) = ((k * (x.den : Int) : Int) : Rat) := by
      rw [Rat.intCast_mul, Rat.intCast_mul, ← hx, ← hk]; grind
    exact Rat.intCast_inj.1 h1
  have e2 : x.num.natAbs * D = k.natAbs * x.den := by
    have := congrArg Int.natAbs e
    rwa [Int.natAbs_mul, Int.natAbs_mul, Int.natAbs_natCast, Int.natAbs_natCast] at this
  have h3 : x.den ∣ x.num.natAbs * D := ⟨k.natAbs, by rw [e2, Nat.mul_comm]⟩
  exact (Nat.Coprime.symm x.reduced).dvd_of_dvd_mul_left h3
/-- A number over D below B: how great it is in limbs. -/
theorem mult_sz {D d b : Nat} {x : Rat} (h : Mult D x) (h0 : 0 ≤ x) (hD : 0 < D) (hd : (D : Int) < pw d) (hb : x < ((pw b : Int) : Rat)) : Sz (b + d) x := by
  have h1 := Nat.le_of_dvd hD (mult_den h hD)
  have h2 := den_pos x
  have h3 := num_pos h0
  have h4 := pw_le (show d ≤ b + d by omega)
  have h5 : x.num < pw b * x.den := by
    have := (Rat.lt_iff x _).1 hb
    rw [Rat.num_intCast, Rat.den_intCast] at this
    simpa using this
  have h6 : pw b * (x.den : Int) ≤ pw b * (D : Int) := Int.mul_le_mul_of_nonneg_left (by omega) (by have := pw_pos b; omega)
  have h7 : pw b * (D : Int) < pw b * pw d := Int.mul_lt_mul_of_pos_left hd (pw_pos b)
  exact ⟨h0, by rw [pw_add]; omega, by omega⟩
theorem mult_sumR {D : Nat} {l : List Rat} (h : ∀ x ∈ l, Mult D x) : Mult D (sumR l) := by
  induction l with
  | nil => exact mult_int D 0
  | cons x r ih => exact mult_add (h x (List.mem_cons_self ..)) (ih (fun y hy => h y (List.mem_cons_of_mem _ hy)))
theorem den_lt {x : Rat} {n : Nat} (h : Sz n x) : x < ((pw n : Int) : Rat) := by
  rw [Rat.lt_iff, Rat.num_intCast, Rat.den_intCast]
  have h1 := den_pos x
  have h2 := h.n
  have h3 : pw n * 1 ≤ pw n * (x.den : Int) := Int.mul_le_mul_of_nonneg_left (by omega) (by have := pw_pos n; omega)
  simp; omega
/-- One denominator for all. -/
theorem one_den {n : Nat} : ∀ (l : List Rat), (∀ x ∈ l, (x.den : Int) ≤ pw n) → ∃ D : Nat, 0 < D ∧ (D : Int) ≤ pw (n * l.length) ∧ ∀ x ∈ l, Mult D x
  | [], _ => ⟨1, by omega, by simp [pw], fun x h => by cases h⟩
  | x :: r, h => by
    obtain ⟨D, h1, h2, h3⟩ := one_den r (fun y hy => h y (List.mem_cons_of_mem _ hy))
    have h4 := h x (List.mem_cons_self ..)
    have hd := x.den_nz
    refine ⟨x.den * D, Nat.mul_pos (by omega) h1, ?_, fun y hy => ?_⟩
    · rw [List.length_cons, Nat.mul_add, Nat.mul_one, Nat.add_comm, pw_add, Int.natCast_mul]
      exact Int.mul_le_mul h4 h2 (by omega) (by have := pw_pos n; omega)
    · rcases List.mem_cons.1 hy with rfl | hy
      · rw [Nat.mul_comm]; exact mult_more (mult_self _) D
      · exact mult_more (h3 y hy) _
end Go.Proofs.Wk
/- A stake given anew: balance.flood walked. -/
namespace Go.Proofs.Wk
open Go.RowKit
set_option maxRecDepth 100000
set_option maxHeartbeats 2000000
attribute [local irreducible] Pw OpG
set_option linter.unusedVariables false
set_option linter.unusedSimpArgs false
/-- Supports and a stake of a size that is dealt with. -/
structure TQ (D d b : Nat) (ws : List Rat) (st : Int) : Prop where
  D0 : 0 < D
  Dd : ((840 * D : Nat) : Int) < pw d
  m : ∀ s ∈ ws, Mult D s ∧ 0 ≤ s ∧ s < ((pw b : Int) : Rat)
  st : 0 ≤ st ∧ st ≤ 18446744073709551615
  b2 : 2 ≤ b
  len : 1 ≤ ws.length ∧ ws.length ≤ 8
  cap : b + d ≤ 120
theorem sumR_le {B : Rat} : ∀ {l : List Rat}, (∀ s ∈ l, s ≤ B) → sumR l ≤ (l.length : Int) * B
  | [], _ => by simp only [sumR, List.length_nil]; have e : (((0 : Nat) : Int) : Rat) = 0 := rfl; rw [e]; grind
  | x :: r, h => by
    have h1 := sumR_le (l := r) (fun s hs => h s (List.mem_cons_of_mem _ hs))
    have h2 := h x (List.mem_cons_self ..)
    have e : (((1 : Nat) : Int) : Rat) = 1 := rfl
    simp only [sumR, List.length_cons, Int.natCast_add, Rat.intCast_add]
    rw [e]; grind
theorem sumR_nn {l : List Rat} (h : ∀ s ∈ l, 0 ≤ s) : 0 ≤ sumR l := by
  induction l with
  | nil => exact Rat.le_refl
  | cons x r ih =>
    simp only [sumR]
    have h1 := ih (fun s hs => h s (List.mem_cons_of_mem _ hs))
    have h2 := h x (List.mem_cons_self ..)
    grind
theorem TQ.perm {D d b : Nat} {ws ws' : List Rat} {st : Int} (h : TQ D d b ws st) (hp : ws'.Perm ws) : TQ D d b ws' st :=
  ⟨h.D0, h.Dd, fun s hs => h.m s (hp.mem_iff.1 hs), h.st, h.b2, by rw [hp.length_eq]; exact h.len, h.cap⟩
theorem TQ.dl {D d b : Nat} {ws : List Rat} {st : Int} (h : TQ D d b ws st) : (D : Int) < pw d := by have := h.Dd; omega
theorem TQ.s {D d b : Nat} {ws : List Rat} {st : Int} (h : TQ D d b ws st) {s : Rat} (hs : s ∈ ws) : Sz (b + d) s := by
  obtain ⟨h1, h2, h3⟩ := h.m s hs
  exact mult_sz h1 h2 h.D0 h.dl h3
/-- The sum of some of them, with the stake. -/
theorem TQ.sub {D d b : Nat} {ws l : List Rat} {st : Int} (h : TQ D d b ws st) (hl : ∀ s ∈ l, s ∈ ws) (hn : l.length ≤ 8) : Mult D ((st : Rat) + sumR l) ∧ 0 ≤ (st : Rat) + sumR l ∧ (st : Rat) + sumR l < ((pw (b + 1) : Int) : Rat) := by
  have h0 := sumR_nn (l := l) (fun s hs => (h.m s (hl s hs)).2.1)
  have h1 := sumR_le (B := ((pw b : Int) : Rat)) (l := l) (fun s hs => Rat.le_of_lt (h.m s (hl s hs)).2.2)
  have hst : (0 : Rat) ≤ (st : Rat) := Rat.intCast_nonneg.2 h.st.1
  refine ⟨mult_add (mult_int D st) (mult_sumR fun s hs => (h.m s (hl s hs)).1), by grind, ?_⟩
  have h2 : ((l.length : Int) : Rat) * ((pw b : Int) : Rat) ≤ ((8 * pw b : Int) : Rat) := by
    rw [← Rat.intCast_mul, Rat.intCast_le_intCast]
    exact Int.mul_le_mul_of_nonneg_right (by omega) (by have := pw_pos b; omega)
  have h3 : (st : Rat) + ((8 * pw b : Int) : Rat) < ((pw (b + 1) : Int) : Rat) := by
    rw [← Rat.intCast_add, Rat.intCast_lt_intCast, pw_add]
    have e : pw 1 = 4294967296 := rfl
    have e2 : pw 2 = 18446744073709551616 := rfl
    have := pw_le h.b2
    have := h.st
    rw [e]; omega
  grind
theorem TQ.lv {D d b n : Nat} {ws : List Rat} {st : Int} (h : TQ D d b ws st) {x : Rat} (hx : Mult D x ∧ 0 ≤ x ∧ x < ((pw (b + 1) : Int) : Rat)) (hn : 1 ≤ n) (hn8 : n ≤ 8) : Mult (840 * D) (x / ((n : Int) : Rat)) ∧ 0 ≤ x / ((n : Int) : Rat) ∧ x / ((n : Int) : Rat) < ((pw (b + 1) : Int) : Rat) := by
  have hne := len_ne (n := n) (by omega)
  have hnp : (1 : Rat) ≤ ((n : Int) : Rat) := by have e : ((1 : Int) : Rat) = 1 := rfl; rw [← e, Rat.intCast_le_intCast]; omega
  have hd : n ∣ 840 := by
    have h1 : n = 1 ∨ n = 2 ∨ n = 3 ∨ n = 4 ∨ n = 5 ∨ n = 6 ∨ n = 7 ∨ n = 8 := by omega
    rcases h1 with rfl | rfl | rfl | rfl | rfl | rfl | rfl | rfl <;> decide
  have hm : x / ((n : Int) : Rat) * ((n : Int) : Rat) = x := Rat.div_mul_cancel hne
  have h0 : 0 ≤ x / ((n : Int) : Rat) := by
    rw [Rat.div_def]; exact Rat.mul_nonneg hx.2.1 (Rat.le_of_lt (Rat.inv_pos.2 (by grind)))
  have hle : x / ((n : Int) : Rat) ≤ x := by
    have h2 : x / ((n : Int) : Rat) * 1 ≤ x / ((n : Int) : Rat) * ((n : Int) : Rat) := Rat.mul_le_mul_of_nonneg_left hnp h0
    rw [hm, Rat.mul_one] at h2; exact h2
  refine ⟨mult_div hx.1 (by omega) hd, h0, ?_⟩
  have := hx.2.2; grind
theorem TQ.sz {D d b : Nat} {ws : List Rat} {st : Int} (h : TQ D d b ws st) {x : Rat} (hx : Mult (840 * D) x ∧ 0 ≤ x ∧ x < ((pw (b + 1) : Int) : Rat)) : Sz (b + 1 + d) x :=
  mult_sz hx.1 hx.2.1 (Nat.mul_pos (by omega) h.D0) h.Dd hx.2.2
/-- The level behind the first j. -/
def FlJ (so : List Rat) (st : Int) (j : Nat) (a b : List Int) : Prop := 0 < j → ∃ v, Fld so st j v ∧ v = ((st : Rat) + sumR (so.take j)) / ((j : Int) : Rat) ∧ a = qn v ∧ b = qd v
def SU (so : List Rat) (st : Int) (j : Nat) : Rat := (st : Rat) + sumR (so.take j)
theorem SU_snoc {so : List Rat} {st : Int} {j : Nat} {s : Rat} (h : so[j]? = some s) : SU so st (j + 1) = SU so st j + s := by
  unfold SU; rw [sumR_snoc h]; grind
theorem take_mem {α : Type} {l : List α} {j : Nat} {x : α} (h : x ∈ l.take j) : x ∈ l := List.mem_of_mem_take h
theorem rtq_ex {s : Rt} {m : Nat} (h : RtQ m s) : ∃ (y : Rat) (z : Z2), s = ⟨qn y, qd y, z⟩ ∧ Sz m y ∧ rq s = y := by
  obtain ⟨a, b, z⟩ := s
  obtain ⟨h1, h2, h3⟩ := h
  dsimp only at h1 h2
  exact ⟨rq ⟨a, b, z⟩, z, by rw [← h1, ← h2], h3, rfl⟩
end Go.Proofs.Wk
/- A stake given anew: balance.flood walked. -/
namespace Go.Proofs.Wk
open Go.RowKit
set_option maxRecDepth 100000
set_option maxHeartbeats 4000000
attribute [local irreducible] Pw OpG
set_option linter.unusedVariables false
set_option linter.unusedSimpArgs false
theorem cmpQ_pos' {x y : Rat} : cmpQ x y > 0 ↔ y < x := by
  unfold cmpQ
  by_cases h : x < y
  · rw [if_pos h]; constructor
    · omega
    · intro h'; grind
  · rw [if_neg h]
    by_cases h2 : x = y
    · rw [if_pos h2]; constructor
      · omega
      · intro h'; grind
    · rw [if_neg h2]; constructor
      · intro _; grind
      · omega
theorem flood_ct {D d b : Nat} {ws : List Rat} {st : Int} (hT : TQ D d b ws st) (so : List Rt) (x : Option Addr × Nat) (hq : ∀ s ∈ so, RtQ (b + d) s) (hp : (so.map rq).Perm ws) (hso : (so.map rq).Pairwise (· ≤ ·)) :
    Ct Tryz.prog 18 #[.int .u64 st, rsV so x] (RS so x) (fun r : Rat × Z2 => .tuple #[qt r.1 r.2, .int .i64 0]) (fun r => Lev ws st r.1 ∧ (Mult (840 * D) r.1 ∧ 0 ≤ r.1 ∧ r.1 < ((pw (b + 1) : Int) : Rat))) (fun r => QW r.1 r.2) := by
  obtain ⟨A, c⟩ := x
  have hT2 := hT.perm hp
  have hlen := hT2.len
  rw [List.length_map] at hlen
  have hcap := hT.cap
  refine Ct.start Tryz.func18 rfl rfl (slots_of rfl slots2) (fun D0 w0 => ?_)
  repeat (first | (with_reducible first | refine Pw.seq ?_ | refine Pw.region ?_ | refine Pw.nil ?_ | refine Pw.then_ ?_ | refine Pw.skip ?_ | refine Pw.block ?_ | refine Pw.exit ?_ | refine Pw.inX ?_ | refine Pw.inN ?_ | refine Pw.inR ?_ | refine Pw.thenX ?_ | refine Pw.thenR ?_ | refine Pw.ret ?_) | refine Pw.list (Pw.pure rfl rfl rfl ?_) | refine Pw.inY rfl ?_ | refine Pw.list (Pw.off rfl rfl ?_) | refine Pw.condT rfl ?_ | refine Pw.condF rfl ?_ | refine Pw.list (Pw.box rfl rfl rfl rfl (fun _ => ?_)) | refine Pw.list (Pw.alloc rfl rfl rfl rfl rfl (fun _ => ?_)) | refine Pw.list (Pw.build rfl rfl rfl rfl ?_) | refine Pw.list (Pw.ld rfl inferInstance rfl rfl rfl ?_) | refine Pw.list (Pw.sto rfl rfl inferInstance rfl rfl rfl rfl rfl inferInstance rfl ?_))
  rename_i g4
  refine Pw.list (Pw.call (qOf_ct hT.st.1 hT.st.2) rfl rfl rfl (by kernel_rfl) rfl rfl (fun w h => trivial) ?_)
  intro z6 _
  repeat (first | (with_reducible first | refine Pw.seq ?_ | refine Pw.region ?_ | refine Pw.nil ?_ | refine Pw.then_ ?_ | refine Pw.skip ?_ | refine Pw.block ?_ | refine Pw.exit ?_ | refine Pw.inX ?_ | refine Pw.inN ?_ | refine Pw.inR ?_ | refine Pw.thenX ?_ | refine Pw.thenR ?_ | refine Pw.ret ?_) | refine Pw.list (Pw.pure rfl rfl rfl ?_) | refine Pw.inY rfl ?_ | refine Pw.list (Pw.off rfl rfl ?_) | refine Pw.condT rfl ?_ | refine Pw.condF rfl ?_ | refine Pw.list (Pw.box rfl rfl rfl rfl (fun _ => ?_)) | refine Pw.list (Pw.alloc rfl rfl rfl rfl rfl (fun _ => ?_)) | refine Pw.list (Pw.build rfl rfl rfl rfl ?_) | refine Pw.list (Pw.ld rfl inferInstance rfl rfl rfl ?_) | refine Pw.list (Pw.sto rfl rfl inferInstance rfl rfl rfl rfl rfl inferInstance rfl ?_))
  rename_i g6
  have e0 : ((st : Int) : Rat) = SU (so.map rq) st 0 := by unfold SU; simp only [List.take_zero, sumR]; grind
  refine Pw.facts (G' := [QW (SU (so.map rq) st 0) z6, R2 [] [] z0, RS so (A, c)]) (fun w h => allCons (by rw [← e0]; exact (hv w h : QW ((st : Int) : Rat) z6 w)) (allCons (R2.nil w) (allCons (hv w h) allNil))) ?_
  refine Pw.eqL (L' := [⟨g6, row [sl (qn (SU (so.map rq) st 0)) z6.1, sl (qd (SU (so.map rq) st 0)) z6.2] 37⟩, ⟨g4, row [sl [] z0.1, sl [] z0.2] 37⟩]) (by rw [← e0]; rfl) ?_
  refine Pw.loopJ (σ := Nat × Z2 × List Int × List Int × Z2) (fun t => t.1 ≤ so.length ∧ FlJ (so.map rq) st t.1 t.2.2.1 t.2.2.2.1) (fun t => ⟨[(4, .pointer (some ⟨g4, 0, none⟩)), (6, .pointer (some ⟨g6, 0, none⟩)), (17, .slice A so.length c), (18, .int .i64 so.length), (19, .int .i64 t.1)], [⟨g6, row [sl (qn (SU (so.map rq) st t.1)) t.2.1.1, sl (qd (SU (so.map rq) st t.1)) t.2.1.2] 37⟩, ⟨g4, row [sl t.2.2.1 t.2.2.2.2.1, sl t.2.2.2.1 t.2.2.2.2.2] 37⟩], [QW (SU (so.map rq) st t.1) t.2.1, R2 t.2.2.1 t.2.2.2.1 t.2.2.2.2, RS so (A, c)]⟩) (fun t => so.length - t.1) (0, z6, [], [], z0) ⟨Nat.zero_le _, fun h => absurd h (by omega)⟩ (Pw.enter ⟨rfl, rfl, rfl, rfl, rfl, trivial⟩ (fun w h => h)) ?_
  rintro ⟨j, z6, la, lb, zl⟩ ⟨hj, hJ⟩
  dsimp only at hj hJ ⊢
  repeat (first | (with_reducible first | refine Pw.seq ?_ | refine Pw.region ?_ | refine Pw.nil ?_ | refine Pw.then_ ?_ | refine Pw.skip ?_ | refine Pw.block ?_ | refine Pw.exit ?_ | refine Pw.inX ?_ | refine Pw.inN ?_ | refine Pw.inR ?_ | refine Pw.thenX ?_ | refine Pw.thenR ?_ | refine Pw.ret ?_) | refine Pw.list (Pw.pure rfl rfl rfl ?_) | refine Pw.inY rfl ?_ | refine Pw.list (Pw.off rfl rfl ?_) | refine Pw.condT rfl ?_ | refine Pw.condF rfl ?_ | refine Pw.list (Pw.box rfl rfl rfl rfl (fun _ => ?_)) | refine Pw.list (Pw.alloc rfl rfl rfl rfl rfl (fun _ => ?_)) | refine Pw.list (Pw.build rfl rfl rfl rfl ?_) | refine Pw.list (Pw.ld rfl inferInstance rfl rfl rfl ?_) | refine Pw.list (Pw.sto rfl rfl inferInstance rfl rfl rfl rfl rfl inferInstance rfl ?_))
  refine Pw.condD rfl (fun c3 => ?_) (fun c3 => ?_)
  · obtain ⟨s, hsj, hsm⟩ := get_at (show j < so.length by omega)
    have hsub := fun k (hk : k ≤ so.length) => hT2.sub (l := (so.map rq).take k) (fun s hs => take_mem hs) (by rw [List.length_take, List.length_map]; omega)
    have hSj := hsub j hj
    have hSj1 := hsub (j + 1) (by omega)
    have hsr : (so.map rq)[j]? = some (rq s) := by rw [List.getElem?_map, hsj]; rfl
    have eS := SU_snoc (st := st) hsr
    obtain ⟨y, zs, rfl, hy, hyq⟩ := rtq_ex (hq s hsm)
    rw [hyq] at hsr eS
    have hSz : Sz (b + 1 + d) (SU (so.map rq) st j) := mult_sz hSj.1 hSj.2.1 hT.D0 hT.dl hSj.2.2
    have hSz1 : Sz (b + 1 + d) (SU (so.map rq) st (j + 1)) := mult_sz hSj1.1 hSj1.2.1 hT.D0 hT.dl hSj1.2.2
    have hlv := hT2.lv (n := j + 1) hSj1 (by omega) (by omega)
    have hlz := hT2.sz hlv
    have en : (((j + 1 : Nat) : Int) : Rat) = (((j : Int) + 1 : Int) : Rat) := by rw [Int.natCast_add]; rfl
    have hnp : (0 : Rat) < (((j + 1 : Nat) : Int) : Rat) := by have e : ((0 : Int) : Rat) = 0 := rfl; rw [← e, Rat.intCast_lt_intCast]; omega
    have hnz : Sz 1 (((j + 1 : Nat) : Int) : Rat) := sz_int (by omega) (by show _ < (4294967296 : Int); omega) (by omega)
    -- the rest of the round, the support not above the level
    have hnext : (0 < j → ∃ v, Fld (so.map rq) st j v ∧ y < v) → FlJ (so.map rq) st (j + 1) (qn (SU (so.map rq) st (j + 1) / ((j + 1 : Nat) : Int))) (qd (SU (so.map rq) st (j + 1) / ((j + 1 : Nat) : Int))) := by
      intro hv _
      refine ⟨SU (so.map rq) st (j + 1) / ((j + 1 : Nat) : Int), ?_, rfl, rfl, rfl⟩
      rcases Nat.eq_zero_or_pos j with rfl | h0
      · have h1 := fld_first (st := (st : Rat)) hsr (Rat.intCast_nonneg.2 hT.st.1)
        have e1 : (((0 + 1 : Nat) : Int) : Rat) = 1 := rfl
        have e2 : SU (so.map rq) st (0 + 1) / (((0 + 1 : Nat) : Int) : Rat) = (st : Rat) + y := by
          rw [eS, e1, ← e0]; grind
        rw [e2]; exact h1
      · obtain ⟨v, h1, h2⟩ := hv h0
        have h3 := fld_next hso hsr h1 h2
        rw [eS]; exact h3
    repeat (first | (with_reducible first | refine Pw.seq ?_ | refine Pw.region ?_ | refine Pw.nil ?_ | refine Pw.then_ ?_ | refine Pw.skip ?_ | refine Pw.block ?_ | refine Pw.exit ?_ | refine Pw.inX ?_ | refine Pw.inN ?_ | refine Pw.inR ?_ | refine Pw.thenX ?_ | refine Pw.thenR ?_ | refine Pw.ret ?_) | refine Pw.list (Pw.pure rfl rfl rfl ?_) | refine Pw.inY rfl ?_ | refine Pw.list (Pw.off rfl rfl ?_) | refine Pw.condT rfl ?_ | refine Pw.condF rfl ?_ | refine Pw.list (Pw.box rfl rfl rfl rfl (fun _ => ?_)) | refine Pw.list (Pw.alloc rfl rfl rfl rfl rfl (fun _ => ?_)) | refine Pw.list (Pw.build rfl rfl rfl rfl ?_) | refine Pw.list (Pw.ld rfl inferInstance rfl rfl rfl ?_) | refine Pw.list (Pw.sto rfl rfl inferInstance rfl rfl rfl rfl rfl inferInstance rfl ?_))
    refine Pw.list (Pw.index rfl rfl rfl rfl (Int.natCast_nonneg j) c3 (fun w h => (hv w h : RS so (A, c) w).has (Int.natCast_nonneg j) c3) rfl rfl ?_)
    rintro ad rfl
    refine Pw.list (Pw.loadR ⟨qn y, qd y, zs⟩ rfl inferInstance rfl (by rw [Int.toNat_natCast]; exact hsj) (by kernel_rfl) rfl rfl ?_)
    refine Pw.re (d := 23) (v' := qt y zs) rfl rfl ?_
    repeat (first | (with_reducible first | refine Pw.seq ?_ | refine Pw.region ?_ | refine Pw.nil ?_ | refine Pw.then_ ?_ | refine Pw.skip ?_ | refine Pw.block ?_ | refine Pw.exit ?_ | refine Pw.inX ?_ | refine Pw.inN ?_ | refine Pw.inR ?_ | refine Pw.thenX ?_ | refine Pw.thenR ?_ | refine Pw.ret ?_) | refine Pw.list (Pw.pure rfl rfl rfl ?_) | refine Pw.inY rfl ?_ | refine Pw.list (Pw.off rfl rfl ?_) | refine Pw.condT rfl ?_ | refine Pw.condF rfl ?_ | refine Pw.list (Pw.box rfl rfl rfl rfl (fun _ => ?_)) | refine Pw.list (Pw.alloc rfl rfl rfl rfl rfl (fun _ => ?_)) | refine Pw.list (Pw.build rfl rfl rfl rfl ?_) | refine Pw.list (Pw.ld rfl inferInstance rfl rfl rfl ?_) | refine Pw.list (Pw.sto rfl rfl inferInstance rfl rfl rfl rfl rfl inferInstance rfl ?_))
    refine freeHead ?_
    repeat (first | (with_reducible first | refine Pw.seq ?_ | refine Pw.region ?_ | refine Pw.nil ?_ | refine Pw.then_ ?_ | refine Pw.skip ?_ | refine Pw.block ?_ | refine Pw.exit ?_ | refine Pw.inX ?_ | refine Pw.inN ?_ | refine Pw.inR ?_ | refine Pw.thenX ?_ | refine Pw.thenR ?_ | refine Pw.ret ?_) | refine Pw.list (Pw.pure rfl rfl rfl ?_) | refine Pw.inY rfl ?_ | refine Pw.list (Pw.off rfl rfl ?_) | refine Pw.condT rfl ?_ | refine Pw.condF rfl ?_ | refine Pw.list (Pw.box rfl rfl rfl rfl (fun _ => ?_)) | refine Pw.list (Pw.alloc rfl rfl rfl rfl rfl (fun _ => ?_)) | refine Pw.list (Pw.build rfl rfl rfl rfl ?_) | refine Pw.list (Pw.ld rfl inferInstance rfl rfl rfl ?_) | refine Pw.list (Pw.sto rfl rfl inferInstance rfl rfl rfl rfl rfl inferInstance rfl ?_))
    rcases Nat.eq_zero_or_pos j with h0 | h0
    · refine Pw.re (d := 26) (v' := .bool false) rfl (congrArg Value.bool (decide_eq_false (by omega))) ?_
      repeat (first | (with_reducible first | refine Pw.seq ?_ | refine Pw.region ?_ | refine Pw.nil ?_ | refine Pw.then_ ?_ | refine Pw.skip ?_ | refine Pw.block ?_ | refine Pw.exit ?_ | refine Pw.inX ?_ | refine Pw.inN ?_ | refine Pw.inR ?_ | refine Pw.thenX ?_ | refine Pw.thenR ?_ | refine Pw.ret ?_) | refine Pw.list (Pw.pure rfl rfl rfl ?_) | refine Pw.inY rfl ?_ | refine Pw.list (Pw.off rfl rfl ?_) | refine Pw.condT rfl ?_ | refine Pw.condF rfl ?_ | refine Pw.list (Pw.box rfl rfl rfl rfl (fun _ => ?_)) | refine Pw.list (Pw.alloc rfl rfl rfl rfl rfl (fun _ => ?_)) | refine Pw.list (Pw.build rfl rfl rfl rfl ?_) | refine Pw.list (Pw.ld rfl inferInstance rfl rfl rfl ?_) | refine Pw.list (Pw.sto rfl rfl inferInstance rfl rfl rfl rfl rfl inferInstance rfl ?_))
      refine Pw.list (Pw.call (qAdd_ct hSz hy z6 zs (by omega)) rfl rfl rfl (by kernel_rfl) rfl rfl (fun w h => ⟨(hv w h), (hv w h : heldR ⟨qn y, qd y, zs⟩ w)⟩) ?_)
      intro z6' _
      rw [← eS]
      repeat (first | (with_reducible first | refine Pw.seq ?_ | refine Pw.region ?_ | refine Pw.nil ?_ | refine Pw.then_ ?_ | refine Pw.skip ?_ | refine Pw.block ?_ | refine Pw.exit ?_ | refine Pw.inX ?_ | refine Pw.inN ?_ | refine Pw.inR ?_ | refine Pw.thenX ?_ | refine Pw.thenR ?_ | refine Pw.ret ?_) | refine Pw.list (Pw.pure rfl rfl rfl ?_) | refine Pw.inY rfl ?_ | refine Pw.list (Pw.off rfl rfl ?_) | refine Pw.condT rfl ?_ | refine Pw.condF rfl ?_ | refine Pw.list (Pw.box rfl rfl rfl rfl (fun _ => ?_)) | refine Pw.list (Pw.alloc rfl rfl rfl rfl rfl (fun _ => ?_)) | refine Pw.list (Pw.build rfl rfl rfl rfl ?_) | refine Pw.list (Pw.ld rfl inferInstance rfl rfl rfl ?_) | refine Pw.list (Pw.sto rfl rfl inferInstance rfl rfl rfl rfl rfl inferInstance rfl ?_))
      refine Pw.re (d := 45) (v' := .int .u64 ((j + 1 : Nat) : Int)) rfl (congrArg (Value.int .u64) (by rw [i64s (n := 100000) (by omega) (by omega), wu (by omega) (by omega)])) ?_
      refine Pw.list (Pw.call (qOf_ct (n := ((j + 1 : Nat) : Int)) (by omega) (by omega)) rfl rfl rfl (by kernel_rfl) rfl rfl (fun w h => trivial) ?_)
      intro zn _
      repeat (first | (with_reducible first | refine Pw.seq ?_ | refine Pw.region ?_ | refine Pw.nil ?_ | refine Pw.then_ ?_ | refine Pw.skip ?_ | refine Pw.block ?_ | refine Pw.exit ?_ | refine Pw.inX ?_ | refine Pw.inN ?_ | refine Pw.inR ?_ | refine Pw.thenX ?_ | refine Pw.thenR ?_ | refine Pw.ret ?_) | refine Pw.list (Pw.pure rfl rfl rfl ?_) | refine Pw.inY rfl ?_ | refine Pw.list (Pw.off rfl rfl ?_) | refine Pw.condT rfl ?_ | refine Pw.condF rfl ?_ | refine Pw.list (Pw.box rfl rfl rfl rfl (fun _ => ?_)) | refine Pw.list (Pw.alloc rfl rfl rfl rfl rfl (fun _ => ?_)) | refine Pw.list (Pw.build rfl rfl rfl rfl ?_) | refine Pw.list (Pw.ld rfl inferInstance rfl rfl rfl ?_) | refine Pw.list (Pw.sto rfl rfl inferInstance rfl rfl rfl rfl rfl inferInstance rfl ?_))
      refine freeHead ?_
      repeat (first | (with_reducible first | refine Pw.seq ?_ | refine Pw.region ?_ | refine Pw.nil ?_ | refine Pw.then_ ?_ | refine Pw.skip ?_ | refine Pw.block ?_ | refine Pw.exit ?_ | refine Pw.inX ?_ | refine Pw.inN ?_ | refine Pw.inR ?_ | refine Pw.thenX ?_ | refine Pw.thenR ?_ | refine Pw.ret ?_) | refine Pw.list (Pw.pure rfl rfl rfl ?_) | refine Pw.inY rfl ?_ | refine Pw.list (Pw.off rfl rfl ?_) | refine Pw.condT rfl ?_ | refine Pw.condF rfl ?_ | refine Pw.list (Pw.box rfl rfl rfl rfl (fun _ => ?_)) | refine Pw.list (Pw.alloc rfl rfl rfl rfl rfl (fun _ => ?_)) | refine Pw.list (Pw.build rfl rfl rfl rfl ?_) | refine Pw.list (Pw.ld rfl inferInstance rfl rfl rfl ?_) | refine Pw.list (Pw.sto rfl rfl inferInstance rfl rfl rfl rfl rfl inferInstance rfl ?_))
      refine Pw.list (Pw.call (qDiv_ct hSz1 hnz z6' zn (by omega) hnp) rfl rfl rfl (by kernel_rfl) rfl rfl (fun w h => ⟨(hv w h), (hv w h)⟩) ?_)
      intro zl' _
      repeat (first | (with_reducible first | refine Pw.seq ?_ | refine Pw.region ?_ | refine Pw.nil ?_ | refine Pw.then_ ?_ | refine Pw.skip ?_ | refine Pw.block ?_ | refine Pw.exit ?_ | refine Pw.inX ?_ | refine Pw.inN ?_ | refine Pw.inR ?_ | refine Pw.thenX ?_ | refine Pw.thenR ?_ | refine Pw.ret ?_) | refine Pw.list (Pw.pure rfl rfl rfl ?_) | refine Pw.inY rfl ?_ | refine Pw.list (Pw.off rfl rfl ?_) | refine Pw.condT rfl ?_ | refine Pw.condF rfl ?_ | refine Pw.list (Pw.box rfl rfl rfl rfl (fun _ => ?_)) | refine Pw.list (Pw.alloc rfl rfl rfl rfl rfl (fun _ => ?_)) | refine Pw.list (Pw.build rfl rfl rfl rfl ?_) | refine Pw.list (Pw.ld rfl inferInstance rfl rfl rfl ?_) | refine Pw.list (Pw.sto rfl rfl inferInstance rfl rfl rfl rfl rfl inferInstance rfl ?_))
      refine Pw.re (d := 19) (v' := .int .i64 ((j + 1 : Nat) : Int)) rfl (congrArg (Value.int .i64) (i64s (n := 100000) (by omega) (by omega))) ?_
      exact Pw.again (j + 1, z6', qn (SU (so.map rq) st (j + 1) / ((j + 1 : Nat) : Int)), qd (SU (so.map rq) st (j + 1) / ((j + 1 : Nat) : Int)), zl') ⟨by omega, hnext (fun h => absurd h (by omega))⟩ (by show so.length - (j + 1) < so.length - j; omega) ⟨rfl, rfl, rfl, rfl, rfl, trivial⟩ rfl (fun w h => allCons (hv w h) (allCons (hv w h) (allCons (hv w h) allNil)))
    · refine Pw.re (d := 26) (v' := .bool true) rfl (congrArg Value.bool (decide_eq_true (by omega))) ?_
      obtain ⟨v, hv1, hv2, rfl, rfl⟩ := hJ h0
      have hlv0 := hT2.lv (n := j) hSj (by omega) (by omega)
      rw [← hv2] at hlv0
      have hlz0 := hT2.sz hlv0
      repeat (first | (with_reducible first | refine Pw.seq ?_ | refine Pw.region ?_ | refine Pw.nil ?_ | refine Pw.then_ ?_ | refine Pw.skip ?_ | refine Pw.block ?_ | refine Pw.exit ?_ | refine Pw.inX ?_ | refine Pw.inN ?_ | refine Pw.inR ?_ | refine Pw.thenX ?_ | refine Pw.thenR ?_ | refine Pw.ret ?_) | refine Pw.list (Pw.pure rfl rfl rfl ?_) | refine Pw.inY rfl ?_ | refine Pw.list (Pw.off rfl rfl ?_) | refine Pw.condT rfl ?_ | refine Pw.condF rfl ?_ | refine Pw.list (Pw.box rfl rfl rfl rfl (fun _ => ?_)) | refine Pw.list (Pw.alloc rfl rfl rfl rfl rfl (fun _ => ?_)) | refine Pw.list (Pw.build rfl rfl rfl rfl ?_) | refine Pw.list (Pw.ld rfl inferInstance rfl rfl rfl ?_) | refine Pw.list (Pw.sto rfl rfl inferInstance rfl rfl rfl rfl rfl inferInstance rfl ?_))
      refine Pw.list (Pw.call (qCmp_ct hlz0 hy zl zs (by omega)) rfl rfl rfl (by kernel_rfl) rfl rfl (fun w h => ⟨(hv w h), (hv w h : heldR ⟨qn y, qd y, zs⟩ w)⟩) ?_)
      intro _ _
      by_cases hvy : y < v
      · refine Pw.list (Pw.pure rfl rfl rfl ?_)
        refine Pw.re (d := 30) (v' := .bool false) rfl (congrArg Value.bool (decide_eq_false (fun e => by have := cmpQ_pos'.2 hvy; omega))) ?_
        repeat (first | (with_reducible first | refine Pw.seq ?_ | refine Pw.region ?_ | refine Pw.nil ?_ | refine Pw.then_ ?_ | refine Pw.skip ?_ | refine Pw.block ?_ | refine Pw.exit ?_ | refine Pw.inX ?_ | refine Pw.inN ?_ | refine Pw.inR ?_ | refine Pw.thenX ?_ | refine Pw.thenR ?_ | refine Pw.ret ?_) | refine Pw.list (Pw.pure rfl rfl rfl ?_) | refine Pw.inY rfl ?_ | refine Pw.list (Pw.off rfl rfl ?_) | refine Pw.condT rfl ?_ | refine Pw.condF rfl ?_ | refine Pw.list (Pw.box rfl rfl rfl rfl (fun _ => ?_)) | refine Pw.list (Pw.alloc rfl rfl rfl rfl rfl (fun _ => ?_)) | refine Pw.list (Pw.build rfl rfl rfl rfl ?_) | refine Pw.list (Pw.ld rfl inferInstance rfl rfl rfl ?_) | refine Pw.list (Pw.sto rfl rfl inferInstance rfl rfl rfl rfl rfl inferInstance rfl ?_))
        refine Pw.list (Pw.call (qAdd_ct hSz hy z6 zs (by omega)) rfl rfl rfl (by kernel_rfl) rfl rfl (fun w h => ⟨(hv w h), (hv w h : heldR ⟨qn y, qd y, zs⟩ w)⟩) ?_)
        intro z6' _
        rw [← eS]
        repeat (first | (with_reducible first | refine Pw.seq ?_ | refine Pw.region ?_ | refine Pw.nil ?_ | refine Pw.then_ ?_ | refine Pw.skip ?_ | refine Pw.block ?_ | refine Pw.exit ?_ | refine Pw.inX ?_ | refine Pw.inN ?_ | refine Pw.inR ?_ | refine Pw.thenX ?_ | refine Pw.thenR ?_ | refine Pw.ret ?_) | refine Pw.list (Pw.pure rfl rfl rfl ?_) | refine Pw.inY rfl ?_ | refine Pw.list (Pw.off rfl rfl ?_) | refine Pw.condT rfl ?_ | refine Pw.condF rfl ?_ | refine Pw.list (Pw.box rfl rfl rfl rfl (fun _ => ?_)) | refine Pw.list (Pw.alloc rfl rfl rfl rfl rfl (fun _ => ?_)) | refine Pw.list (Pw.build rfl rfl rfl rfl ?_) | refine Pw.list (Pw.ld rfl inferInstance rfl rfl rfl ?_) | refine Pw.list (Pw.sto rfl rfl inferInstance rfl rfl rfl rfl rfl inferInstance rfl ?_))
        refine Pw.re (d := 45) (v' := .int .u64 ((j + 1 : Nat) : Int)) rfl (congrArg (Value.int .u64) (by rw [i64s (n := 100000) (by omega) (by omega), wu (by omega) (by omega)])) ?_
        refine Pw.list (Pw.call (qOf_ct (n := ((j + 1 : Nat) : Int)) (by omega) (by omega)) rfl rfl rfl (by kernel_rfl) rfl rfl (fun w h => trivial) ?_)
        intro zn _
        repeat (first | (with_reducible first | refine Pw.seq ?_ | refine Pw.region ?_ | refine Pw.nil ?_ | refine Pw.then_ ?_ | refine Pw.skip ?_ | refine Pw.block ?_ | refine Pw.exit ?_ | refine Pw.inX ?_ | refine Pw.inN ?_ | refine Pw.inR ?_ | refine Pw.thenX ?_ | refine Pw.thenR ?_ | refine Pw.ret ?_) | refine Pw.list (Pw.pure rfl rfl rfl ?_) | refine Pw.inY rfl ?_ | refine Pw.list (Pw.off rfl rfl ?_) | refine Pw.condT rfl ?_ | refine Pw.condF rfl ?_ | refine Pw.list (Pw.box rfl rfl rfl rfl (fun _ => ?_)) | refine Pw.list (Pw.alloc rfl rfl rfl rfl rfl (fun _ => ?_)) | refine Pw.list (Pw.build rfl rfl rfl rfl ?_) | refine Pw.list (Pw.ld rfl inferInstance rfl rfl rfl ?_) | refine Pw.list (Pw.sto rfl rfl inferInstance rfl rfl rfl rfl rfl inferInstance rfl ?_))
        refine freeHead ?_
        repeat (first | (with_reducible first | refine Pw.seq ?_ | refine Pw.region ?_ | refine Pw.nil ?_ | refine Pw.then_ ?_ | refine Pw.skip ?_ | refine Pw.block ?_ | refine Pw.exit ?_ | refine Pw.inX ?_ | refine Pw.inN ?_ | refine Pw.inR ?_ | refine Pw.thenX ?_ | refine Pw.thenR ?_ | refine Pw.ret ?_) | refine Pw.list (Pw.pure rfl rfl rfl ?_) | refine Pw.inY rfl ?_ | refine Pw.list (Pw.off rfl rfl ?_) | refine Pw.condT rfl ?_ | refine Pw.condF rfl ?_ | refine Pw.list (Pw.box rfl rfl rfl rfl (fun _ => ?_)) | refine Pw.list (Pw.alloc rfl rfl rfl rfl rfl (fun _ => ?_)) | refine Pw.list (Pw.build rfl rfl rfl rfl ?_) | refine Pw.list (Pw.ld rfl inferInstance rfl rfl rfl ?_) | refine Pw.list (Pw.sto rfl rfl inferInstance rfl rfl rfl rfl rfl inferInstance rfl ?_))
        refine Pw.list (Pw.call (qDiv_ct hSz1 hnz z6' zn (by omega) hnp) rfl rfl rfl (by kernel_rfl) rfl rfl (fun w h => ⟨(hv w h), (hv w h)⟩) ?_)
        intro zl' _
        repeat (first | (with_reducible first | refine Pw.seq ?_ | refine Pw.region ?_ | refine Pw.nil ?_ | refine Pw.then_ ?_ | refine Pw.skip ?_ | refine Pw.block ?_ | refine Pw.exit ?_ | refine Pw.inX ?_ | refine Pw.inN ?_ | refine Pw.inR ?_ | refine Pw.thenX ?_ | refine Pw.thenR ?_ | refine Pw.ret ?_) | refine Pw.list (Pw.pure rfl rfl rfl ?_) | refine Pw.inY rfl ?_ | refine Pw.list (Pw.off rfl rfl ?_) | refine Pw.condT rfl ?_ | refine Pw.condF rfl ?_ | refine Pw.list (Pw.box rfl rfl rfl rfl (fun _ => ?_)) | refine Pw.list (Pw.alloc rfl rfl rfl rfl rfl (fun _ => ?_)) | refine Pw.list (Pw.build rfl rfl rfl rfl ?_) | refine Pw.list (Pw.ld rfl inferInstance rfl rfl rfl ?_) | refine Pw.list (Pw.sto rfl rfl inferInstance rfl rfl rfl rfl rfl inferInstance rfl ?_))
        refine Pw.re (d := 19) (v' := .int .i64 ((j + 1 : Nat) : Int)) rfl (congrArg (Value.int .i64) (i64s (n := 100000) (by omega) (by omega))) ?_
        exact Pw.again (j + 1, z6', qn (SU (so.map rq) st (j + 1) / ((j + 1 : Nat) : Int)), qd (SU (so.map rq) st (j + 1) / ((j + 1 : Nat) : Int)), zl') ⟨by omega, hnext (fun _ => ⟨v, hv1, hvy⟩)⟩ (by show so.length - (j + 1) < so.length - j; omega) ⟨rfl, rfl, rfl, rfl, rfl, trivial⟩ rfl (fun w h => allCons (hv w h) (allCons (hv w h) (allCons (hv w h) allNil)))
      · refine Pw.list (Pw.pure rfl rfl rfl ?_)
        refine Pw.re (d := 30) (v' := .bool true) rfl (congrArg Value.bool (decide_eq_true (by have h9 : ¬ cmpQ v y > 0 := fun e => hvy (cmpQ_pos'.1 e); omega))) ?_
        have hlev := fld_end hp hso (by omega) (by rw [List.length_map]; omega) hv1 (fun s hs => by rw [hsr] at hs; cases hs; exact Rat.not_lt.1 hvy)
        repeat (first | (with_reducible first | refine Pw.seq ?_ | refine Pw.region ?_ | refine Pw.nil ?_ | refine Pw.then_ ?_ | refine Pw.skip ?_ | refine Pw.block ?_ | refine Pw.exit ?_ | refine Pw.inX ?_ | refine Pw.inN ?_ | refine Pw.inR ?_ | refine Pw.thenX ?_ | refine Pw.thenR ?_ | refine Pw.ret ?_) | refine Pw.list (Pw.pure rfl rfl rfl ?_) | refine Pw.inY rfl ?_ | refine Pw.list (Pw.off rfl rfl ?_) | refine Pw.condT rfl ?_ | refine Pw.condF rfl ?_ | refine Pw.list (Pw.box rfl rfl rfl rfl (fun _ => ?_)) | refine Pw.list (Pw.alloc rfl rfl rfl rfl rfl (fun _ => ?_)) | refine Pw.list (Pw.build rfl rfl rfl rfl ?_) | refine Pw.list (Pw.ld rfl inferInstance rfl rfl rfl ?_) | refine Pw.list (Pw.sto rfl rfl inferInstance rfl rfl rfl rfl rfl inferInstance rfl ?_))
        exact Pw.ret_ (x := (v, zl)) (.cell rfl (fun w hs => hs.own _ (.tail _ (.head _))) rfl (.tmp rfl .nil)) rfl ⟨hlev, hlv0⟩ (fun w h => (hv w h))
  · obtain rfl : j = so.length := by omega
    obtain ⟨v, hv1, hv2, rfl, rfl⟩ := hJ (by omega)
    have hlev := fld_end hp hso (by omega) (by rw [List.length_map]; omega) hv1 (fun s hs => by rw [List.getElem?_eq_none (by rw [List.length_map]; omega)] at hs; cases hs)
    have hlv0 := hT2.lv (n := so.length) (hT2.sub (l := (so.map rq).take so.length) (fun s hs => take_mem hs) (by rw [List.length_take, List.length_map]; omega)) (by omega) (by omega)
    rw [← hv2] at hlv0
    repeat (first | (with_reducible first | refine Pw.seq ?_ | refine Pw.region ?_ | refine Pw.nil ?_ | refine Pw.then_ ?_ | refine Pw.skip ?_ | refine Pw.block ?_ | refine Pw.exit ?_ | refine Pw.inX ?_ | refine Pw.inN ?_ | refine Pw.inR ?_ | refine Pw.thenX ?_ | refine Pw.thenR ?_ | refine Pw.ret ?_) | refine Pw.list (Pw.pure rfl rfl rfl ?_) | refine Pw.inY rfl ?_ | refine Pw.list (Pw.off rfl rfl ?_) | refine Pw.condT rfl ?_ | refine Pw.condF rfl ?_ | refine Pw.list (Pw.box rfl rfl rfl rfl (fun _ => ?_)) | refine Pw.list (Pw.alloc rfl rfl rfl rfl rfl (fun _ => ?_)) | refine Pw.list (Pw.build rfl rfl rfl rfl ?_) | refine Pw.list (Pw.ld rfl inferInstance rfl rfl rfl ?_) | refine Pw.list (Pw.sto rfl rfl inferInstance rfl rfl rfl rfl rfl inferInstance rfl ?_))
    exact Pw.ret_ (x := (v, zl)) (.cell rfl (fun w hs => hs.own _ (.tail _ (.head _))) rfl (.tmp rfl .nil)) rfl ⟨hlev, hlv0⟩ (fun w h => (hv w h))
end Go.Proofs.Wk
/- A stake given anew: balance.Turn walked. -/
namespace Go.Proofs.Wk
open Go.RowKit
set_option maxRecDepth 100000
set_option maxHeartbeats 4000000
attribute [local irreducible] Pw OpG
set_option linter.unusedVariables false
set_option linter.unusedSimpArgs false
/-- Supports that are refused. -/
def badT (l : List Rt) : Bool := decide (l.length = 0) || (decide (8 < l.length) || l.any (fun s => !formedR s.a s.b))
def outT (ws : List Rat) (v : Rat) : List (List Int × List Int) := ws.map fun s => (qn (gn v s), qd (gn v s))
/-- What a turn answers. -/
def TurnP (D b : Nat) (l : List Rt) (st : Int) (r : List Rt × (Option Addr × Nat) × Int) : Prop :=
  if badT l = true then r.1 = [] ∧ r.2.2 = 1 else r.2.2 = 0 ∧ ∃ v, Lev (l.map rq) st v ∧ (Mult (840 * D) v ∧ 0 ≤ v ∧ v < ((pw (b + 1) : Int) : Rat)) ∧ r.1.map (fun t => (t.a, t.b)) = outT (l.map rq) v
theorem badT_no {l : List Rt} (h : badT l = false) : 1 ≤ l.length ∧ l.length ≤ 8 ∧ l.any (fun s => !formedR s.a s.b) = false := by
  unfold badT at h
  simp only [Bool.or_eq_false_iff, decide_eq_false_iff_not] at h
  exact ⟨by omega, by omega, h.2.2⟩
theorem turn1_ct (s : Rt) (hw : RtW s) (la : s.a.length < 1048576) (lb : s.b.length < 1048576) : Ct Tryz.prog 13 #[rt s.a s.b s.z] (heldR s) (fun _ : Unit => .bool (!formedR s.a s.b)) Tt (fun _ _ => True) := by
  refine Ct.start Tryz.func13 rfl rfl (slots_of rfl slots1) (fun D w0 => ?_)
  repeat (first | (with_reducible first | refine Pw.seq ?_ | refine Pw.region ?_ | refine Pw.nil ?_ | refine Pw.then_ ?_ | refine Pw.skip ?_ | refine Pw.block ?_ | refine Pw.exit ?_ | refine Pw.inX ?_ | refine Pw.inN ?_ | refine Pw.inR ?_ | refine Pw.thenX ?_ | refine Pw.thenR ?_ | refine Pw.ret ?_) | refine Pw.list (Pw.pure rfl rfl rfl ?_) | refine Pw.inY rfl ?_ | refine Pw.list (Pw.off rfl rfl ?_) | refine Pw.condT rfl ?_ | refine Pw.condF rfl ?_ | refine Pw.list (Pw.box rfl rfl rfl rfl (fun _ => freeHead ?_)) | refine Pw.list (Pw.alloc rfl rfl rfl rfl rfl (fun _ => ?_)) | refine Pw.list (Pw.build rfl rfl rfl rfl ?_) | refine Pw.list (Pw.ld rfl inferInstance rfl rfl rfl ?_) | refine Pw.list (Pw.sto rfl rfl inferInstance rfl rfl rfl rfl rfl inferInstance rfl ?_))
  refine Pw.list (Pw.call (rat_Formed_ct s.a s.b s.z hw.a hw.b la lb) rfl rfl rfl (by kernel_rfl) rfl rfl (fun w h => (hv w h : heldR s w)) ?_)
  intro _ _
  repeat (first | (with_reducible first | refine Pw.seq ?_ | refine Pw.region ?_ | refine Pw.nil ?_ | refine Pw.then_ ?_ | refine Pw.skip ?_ | refine Pw.block ?_ | refine Pw.exit ?_ | refine Pw.inX ?_ | refine Pw.inN ?_ | refine Pw.inR ?_ | refine Pw.thenX ?_ | refine Pw.thenR ?_ | refine Pw.ret ?_) | refine Pw.list (Pw.pure rfl rfl rfl ?_) | refine Pw.inY rfl ?_ | refine Pw.list (Pw.off rfl rfl ?_) | refine Pw.condT rfl ?_ | refine Pw.condF rfl ?_ | refine Pw.list (Pw.box rfl rfl rfl rfl (fun _ => ?_)) | refine Pw.list (Pw.alloc rfl rfl rfl rfl rfl (fun _ => ?_)) | refine Pw.list (Pw.build rfl rfl rfl rfl ?_) | refine Pw.list (Pw.ld rfl inferInstance rfl rfl rfl ?_) | refine Pw.list (Pw.sto rfl rfl inferInstance rfl rfl rfl rfl rfl inferInstance rfl ?_))
  exact Pw.ret_ (x := ()) (.tmp rfl .nil) rfl trivial (fun w h => by trivial)
theorem gn_sub {v s : Rat} (h : s ≤ v) : gn v s = v - s := by unfold gn; grind
theorem gn_zero {v s : Rat} (h : v < s) : gn v s = 0 := by unfold gn; grind
theorem permG3 {b : Blk} {x : List Blk} : (b :: (x ++ [])).Perm (x ++ [b]) := by
  rw [List.append_nil]; exact List.perm_append_comm (l₁ := [b])
theorem map_take_snocT {α β : Type} {l : List α} {f : α → β} {i : Nat} {x : α} (h : l[i]? = some x) : (l.take (i + 1)).map f = (l.take i).map f ++ [f x] := by rw [take_snoc h, List.map_append]; rfl
theorem pTurn_ct {D d b : Nat} (st : Int) (l : List Rt) (x : Option Addr × Nat) (hw : ∀ s ∈ l, RtW s) (hb : ∀ s ∈ l, s.a.length < 1048576 ∧ s.b.length < 1048576) (hl : l.length ≤ 1000) (hT : badT l = false → TQ D d b (l.map rq) st) :
    Ct Tryz.prog 6 #[.int .u64 st, rsV l x] (RS l x) (fun r : List Rt × (Option Addr × Nat) × Int => .tuple #[rsV r.1 r.2.1, .int .i64 r.2.2]) (TurnP D b l st) (fun r => RS r.1 r.2.1) := by
  obtain ⟨A, c⟩ := x
  refine Ct.start Tryz.func6 rfl rfl (slots_of rfl slots2) (fun D0 w0 => ?_)
  repeat (first | (with_reducible first | refine Pw.seq ?_ | refine Pw.region ?_ | refine Pw.nil ?_ | refine Pw.then_ ?_ | refine Pw.skip ?_ | refine Pw.block ?_ | refine Pw.exit ?_ | refine Pw.inX ?_ | refine Pw.inN ?_ | refine Pw.inR ?_ | refine Pw.thenX ?_ | refine Pw.thenR ?_ | refine Pw.ret ?_) | refine Pw.list (Pw.pure rfl rfl rfl ?_) | refine Pw.inY rfl ?_ | refine Pw.list (Pw.off rfl rfl ?_) | refine Pw.condT rfl ?_ | refine Pw.condF rfl ?_ | refine Pw.list (Pw.box rfl rfl rfl rfl (fun _ => ?_)) | refine Pw.list (Pw.alloc rfl rfl rfl rfl rfl (fun _ => ?_)) | refine Pw.list (Pw.build rfl rfl rfl rfl ?_) | refine Pw.list (Pw.ld rfl inferInstance rfl rfl rfl ?_) | refine Pw.list (Pw.sto rfl rfl inferInstance rfl rfl rfl rfl rfl inferInstance rfl ?_))
  refine Pw.split 17 rfl (fun c1 => ?_) (fun c1 => ?_)
  · have c1' : l.length = 0 := by omega
    have e : badT l = true := by unfold badT; simp [c1']
    repeat (first | (with_reducible first | refine Pw.seq ?_ | refine Pw.region ?_ | refine Pw.nil ?_ | refine Pw.then_ ?_ | refine Pw.skip ?_ | refine Pw.block ?_ | refine Pw.exit ?_ | refine Pw.inX ?_ | refine Pw.inN ?_ | refine Pw.inR ?_ | refine Pw.thenX ?_ | refine Pw.thenR ?_ | refine Pw.ret ?_) | refine Pw.list (Pw.pure rfl rfl rfl ?_) | refine Pw.inY rfl ?_ | refine Pw.list (Pw.off rfl rfl ?_) | refine Pw.condT rfl ?_ | refine Pw.condF rfl ?_ | refine Pw.list (Pw.box rfl rfl rfl rfl (fun _ => ?_)) | refine Pw.list (Pw.alloc rfl rfl rfl rfl rfl (fun _ => ?_)) | refine Pw.list (Pw.build rfl rfl rfl rfl ?_) | refine Pw.list (Pw.ld rfl inferInstance rfl rfl rfl ?_) | refine Pw.list (Pw.sto rfl rfl inferInstance rfl rfl rfl rfl rfl inferInstance rfl ?_))
    exact Pw.ret_ (x := ([], (none, 0), 1)) (.tmp rfl (.tmp rfl .nil)) rfl (by unfold TurnP; rw [if_pos e]; exact ⟨rfl, rfl⟩) (fun w h => Rows.nil _ _ _ _ _)
  repeat (first | (with_reducible first | refine Pw.seq ?_ | refine Pw.region ?_ | refine Pw.nil ?_ | refine Pw.then_ ?_ | refine Pw.skip ?_ | refine Pw.block ?_ | refine Pw.exit ?_ | refine Pw.inX ?_ | refine Pw.inN ?_ | refine Pw.inR ?_ | refine Pw.thenX ?_ | refine Pw.thenR ?_ | refine Pw.ret ?_) | refine Pw.list (Pw.pure rfl rfl rfl ?_) | refine Pw.inY rfl ?_ | refine Pw.list (Pw.off rfl rfl ?_) | refine Pw.condT rfl ?_ | refine Pw.condF rfl ?_ | refine Pw.list (Pw.box rfl rfl rfl rfl (fun _ => ?_)) | refine Pw.list (Pw.alloc rfl rfl rfl rfl rfl (fun _ => ?_)) | refine Pw.list (Pw.build rfl rfl rfl rfl ?_) | refine Pw.list (Pw.ld rfl inferInstance rfl rfl rfl ?_) | refine Pw.list (Pw.sto rfl rfl inferInstance rfl rfl rfl rfl rfl inferInstance rfl ?_))
  refine Pw.split 22 rfl (fun c2 => ?_) (fun c2 => ?_)
  · have c2' : 8 < l.length := by omega
    have e : badT l = true := by unfold badT; simp [c2']
    repeat (first | (with_reducible first | refine Pw.seq ?_ | refine Pw.region ?_ | refine Pw.nil ?_ | refine Pw.then_ ?_ | refine Pw.skip ?_ | refine Pw.block ?_ | refine Pw.exit ?_ | refine Pw.inX ?_ | refine Pw.inN ?_ | refine Pw.inR ?_ | refine Pw.thenX ?_ | refine Pw.thenR ?_ | refine Pw.ret ?_) | refine Pw.list (Pw.pure rfl rfl rfl ?_) | refine Pw.inY rfl ?_ | refine Pw.list (Pw.off rfl rfl ?_) | refine Pw.condT rfl ?_ | refine Pw.condF rfl ?_ | refine Pw.list (Pw.box rfl rfl rfl rfl (fun _ => ?_)) | refine Pw.list (Pw.alloc rfl rfl rfl rfl rfl (fun _ => ?_)) | refine Pw.list (Pw.build rfl rfl rfl rfl ?_) | refine Pw.list (Pw.ld rfl inferInstance rfl rfl rfl ?_) | refine Pw.list (Pw.sto rfl rfl inferInstance rfl rfl rfl rfl rfl inferInstance rfl ?_))
    exact Pw.ret_ (x := ([], (none, 0), 1)) (.tmp rfl (.tmp rfl .nil)) rfl (by unfold TurnP; rw [if_pos e]; exact ⟨rfl, rfl⟩) (fun w h => Rows.nil _ _ _ _ _)
  repeat (first | (with_reducible first | refine Pw.seq ?_ | refine Pw.region ?_ | refine Pw.nil ?_ | refine Pw.then_ ?_ | refine Pw.skip ?_ | refine Pw.block ?_ | refine Pw.exit ?_ | refine Pw.inX ?_ | refine Pw.inN ?_ | refine Pw.inR ?_ | refine Pw.thenX ?_ | refine Pw.thenR ?_ | refine Pw.ret ?_) | refine Pw.list (Pw.pure rfl rfl rfl ?_) | refine Pw.inY rfl ?_ | refine Pw.list (Pw.off rfl rfl ?_) | refine Pw.condT rfl ?_ | refine Pw.condF rfl ?_ | refine Pw.list (Pw.box rfl rfl rfl rfl (fun _ => ?_)) | refine Pw.list (Pw.alloc rfl rfl rfl rfl rfl (fun _ => ?_)) | refine Pw.list (Pw.build rfl rfl rfl rfl ?_) | refine Pw.list (Pw.ld rfl inferInstance rfl rfl rfl ?_) | refine Pw.list (Pw.sto rfl rfl inferInstance rfl rfl rfl rfl rfl inferInstance rfl ?_))
  refine Pw.list (Pw.call (ContainsR_ct l (A, c) 13 (fun s => !formedR s.a s.b) (fun s hs => turn1_ct s (hw s hs) (hb s hs).1 (hb s hs).2) (by kernel_rfl)) rfl rfl rfl (by kernel_rfl) rfl rfl (fun w h => (hv w h)) ?_)
  intro _ _
  cases hF : l.any (fun s => !formedR s.a s.b)
  case true =>
    have e : badT l = true := by unfold badT; rw [hF]; simp
    repeat (first | (with_reducible first | refine Pw.seq ?_ | refine Pw.region ?_ | refine Pw.nil ?_ | refine Pw.then_ ?_ | refine Pw.skip ?_ | refine Pw.block ?_ | refine Pw.exit ?_ | refine Pw.inX ?_ | refine Pw.inN ?_ | refine Pw.inR ?_ | refine Pw.thenX ?_ | refine Pw.thenR ?_ | refine Pw.ret ?_) | refine Pw.list (Pw.pure rfl rfl rfl ?_) | refine Pw.inY rfl ?_ | refine Pw.list (Pw.off rfl rfl ?_) | refine Pw.condT rfl ?_ | refine Pw.condF rfl ?_ | refine Pw.list (Pw.box rfl rfl rfl rfl (fun _ => ?_)) | refine Pw.list (Pw.alloc rfl rfl rfl rfl rfl (fun _ => ?_)) | refine Pw.list (Pw.build rfl rfl rfl rfl ?_) | refine Pw.list (Pw.ld rfl inferInstance rfl rfl rfl ?_) | refine Pw.list (Pw.sto rfl rfl inferInstance rfl rfl rfl rfl rfl inferInstance rfl ?_))
    exact Pw.ret_ (x := ([], (none, 0), 1)) (.tmp rfl (.tmp rfl .nil)) rfl (by unfold TurnP; rw [if_pos e]; exact ⟨rfl, rfl⟩) (fun w h => Rows.nil _ _ _ _ _)
  have hbad : badT l = false := by unfold badT; rw [hF, decide_eq_false (by omega), decide_eq_false (by omega)]; rfl
  have hTq := hT hbad
  have hcap := hTq.cap
  have hrq : ∀ s ∈ l, RtQ (b + d) s := fun s hs => by
    have hf : formedR s.a s.b = true := by have := List.any_eq_false.1 hF s hs; simpa using this
    obtain ⟨h1, h2, _⟩ := formed_q (hw s hs).a (hw s hs).b hf
    exact ⟨h1, h2, hTq.s (List.mem_map_of_mem hs)⟩
  obtain ⟨hsp, hsw⟩ := insR_perm (by omega) hrq
  repeat (first | (with_reducible first | refine Pw.seq ?_ | refine Pw.region ?_ | refine Pw.nil ?_ | refine Pw.then_ ?_ | refine Pw.skip ?_ | refine Pw.block ?_ | refine Pw.exit ?_ | refine Pw.inX ?_ | refine Pw.inN ?_ | refine Pw.inR ?_ | refine Pw.thenX ?_ | refine Pw.thenR ?_ | refine Pw.ret ?_) | refine Pw.list (Pw.pure rfl rfl rfl ?_) | refine Pw.inY rfl ?_ | refine Pw.list (Pw.off rfl rfl ?_) | refine Pw.condT rfl ?_ | refine Pw.condF rfl ?_ | refine Pw.list (Pw.box rfl rfl rfl rfl (fun _ => ?_)) | refine Pw.list (Pw.alloc rfl rfl rfl rfl rfl (fun _ => ?_)) | refine Pw.list (Pw.build rfl rfl rfl rfl ?_) | refine Pw.list (Pw.ld rfl inferInstance rfl rfl rfl ?_) | refine Pw.list (Pw.sto rfl rfl inferInstance rfl rfl rfl rfl rfl inferInstance rfl ?_))
  refine Pw.list (Pw.call (ValuesR_ct l (A, c)) rfl rfl rfl (by kernel_rfl) rfl rfl (fun w h => trivial) ?_)
  intro gv' _
  repeat (first | (with_reducible first | refine Pw.seq ?_ | refine Pw.region ?_ | refine Pw.nil ?_ | refine Pw.then_ ?_ | refine Pw.skip ?_ | refine Pw.block ?_ | refine Pw.exit ?_ | refine Pw.inX ?_ | refine Pw.inN ?_ | refine Pw.inR ?_ | refine Pw.thenX ?_ | refine Pw.thenR ?_ | refine Pw.ret ?_) | refine Pw.list (Pw.pure rfl rfl rfl ?_) | refine Pw.inY rfl ?_ | refine Pw.list (Pw.off rfl rfl ?_) | refine Pw.condT rfl ?_ | refine Pw.condF rfl ?_ | refine Pw.list (Pw.box rfl rfl rfl rfl (fun _ => ?_)) | refine Pw.list (Pw.alloc rfl rfl rfl rfl rfl (fun _ => ?_)) | refine Pw.list (Pw.build rfl rfl rfl rfl ?_) | refine Pw.list (Pw.ld rfl inferInstance rfl rfl rfl ?_) | refine Pw.list (Pw.sto rfl rfl inferInstance rfl rfl rfl rfl rfl inferInstance rfl ?_))
  refine Pw.list (Pw.call (SortedFuncR_ct l (A, c) gv' (fun s hs => by
    obtain ⟨k1, k2, k3⟩ := hrq s hs
    exact ⟨⟨(hw s hs).a, (hw s hs).b⟩, hb s hs⟩) (by omega) (by omega) (fun s hs => hsp.mem_iff.1 hs)) rfl rfl rfl (by kernel_rfl) rfl rfl (fun w h => ⟨fact0 h, (hv w h)⟩) ?_)
  intro zo _
  repeat (first | (with_reducible first | refine Pw.seq ?_ | refine Pw.region ?_ | refine Pw.nil ?_ | refine Pw.then_ ?_ | refine Pw.skip ?_ | refine Pw.block ?_ | refine Pw.exit ?_ | refine Pw.inX ?_ | refine Pw.inN ?_ | refine Pw.inR ?_ | refine Pw.thenX ?_ | refine Pw.thenR ?_ | refine Pw.ret ?_) | refine Pw.list (Pw.pure rfl rfl rfl ?_) | refine Pw.inY rfl ?_ | refine Pw.list (Pw.off rfl rfl ?_) | refine Pw.condT rfl ?_ | refine Pw.condF rfl ?_ | refine Pw.list (Pw.box rfl rfl rfl rfl (fun _ => ?_)) | refine Pw.list (Pw.alloc rfl rfl rfl rfl rfl (fun _ => ?_)) | refine Pw.list (Pw.build rfl rfl rfl rfl ?_) | refine Pw.list (Pw.ld rfl inferInstance rfl rfl rfl ?_) | refine Pw.list (Pw.sto rfl rfl inferInstance rfl rfl rfl rfl rfl inferInstance rfl ?_))
  refine Pw.list (Pw.call (flood_ct hTq (insR l.length l) zo (fun s hs => hrq s (hsp.mem_iff.1 hs)) (hsp.map rq) hsw) rfl rfl rfl (by kernel_rfl) rfl rfl (fun w h => (hv w h)) ?_)
  rintro ⟨v, zv⟩ ⟨hlev, hvb⟩
  dsimp only at hlev hvb ⊢
  have hvz := hTq.sz hvb
  repeat (first | (with_reducible first | refine Pw.seq ?_ | refine Pw.region ?_ | refine Pw.nil ?_ | refine Pw.then_ ?_ | refine Pw.skip ?_ | refine Pw.block ?_ | refine Pw.exit ?_ | refine Pw.inX ?_ | refine Pw.inN ?_ | refine Pw.inR ?_ | refine Pw.thenX ?_ | refine Pw.thenR ?_ | refine Pw.ret ?_) | refine Pw.list (Pw.pure rfl rfl rfl ?_) | refine Pw.inY rfl ?_ | refine Pw.list (Pw.off rfl rfl ?_) | refine Pw.condT rfl ?_ | refine Pw.condF rfl ?_ | refine Pw.list (Pw.box rfl rfl rfl rfl (fun _ => ?_)) | refine Pw.list (Pw.alloc rfl rfl rfl rfl rfl (fun _ => ?_)) | refine Pw.list (Pw.build rfl rfl rfl rfl ?_) | refine Pw.list (Pw.ld rfl inferInstance rfl rfl rfl ?_) | refine Pw.list (Pw.sto rfl rfl inferInstance rfl rfl rfl rfl rfl inferInstance rfl ?_))
  rename_i g7
  refine Pw.facts (G' := [QW v zv, RS l (A, c), AllR []]) (fun w h => allCons (hv w h) (allCons (hv w h) (allCons (fun r hr => by cases hr) allNil))) ?_
  refine Pw.eqL (L' := gL3 none (cellsR []) 37 ⟨g7, row [sl (qn v) zv.1, sl (qd v) zv.2] 37⟩) rfl ?_
  refine Pw.loopJ (σ := Nat × Gr × List Rt) (fun t => t.1 ≤ l.length ∧ t.2.2.map (fun t => (t.a, t.b)) = outT ((l.take t.1).map rq) v ∧ gOk t.2.1 (cellsR t.2.2) t.1 2) (fun t => ⟨[(7, .pointer (some ⟨g7, 0, none⟩)), (9, gv t.2.1 t.1), (38, .slice A l.length c), (39, .int .i64 l.length), (40, .int .i64 t.1)], gL3 t.2.1 (cellsR t.2.2) 37 ⟨g7, row [sl (qn v) zv.1, sl (qd v) zv.2] 37⟩, [QW v zv, RS l (A, c), AllR t.2.2]⟩) (fun t => l.length - t.1) (0, none, []) ⟨Nat.zero_le _, rfl, rfl, rfl⟩ (Pw.enter ⟨rfl, rfl, rfl, rfl, rfl, trivial⟩ (fun w h => h)) ?_
  rintro ⟨i, q, rs⟩ ⟨hi, hrs, hqo⟩
  dsimp only at hi hrs hqo ⊢
  repeat (first | (with_reducible first | refine Pw.seq ?_ | refine Pw.region ?_ | refine Pw.nil ?_ | refine Pw.then_ ?_ | refine Pw.skip ?_ | refine Pw.block ?_ | refine Pw.exit ?_ | refine Pw.inX ?_ | refine Pw.inN ?_ | refine Pw.inR ?_ | refine Pw.thenX ?_ | refine Pw.thenR ?_ | refine Pw.ret ?_) | refine Pw.list (Pw.pure rfl rfl rfl ?_) | refine Pw.inY rfl ?_ | refine Pw.list (Pw.off rfl rfl ?_) | refine Pw.condT rfl ?_ | refine Pw.condF rfl ?_ | refine Pw.list (Pw.box rfl rfl rfl rfl (fun _ => ?_)) | refine Pw.list (Pw.alloc rfl rfl rfl rfl rfl (fun _ => ?_)) | refine Pw.list (Pw.build rfl rfl rfl rfl ?_) | refine Pw.list (Pw.ld rfl inferInstance rfl rfl rfl ?_) | refine Pw.list (Pw.sto rfl rfl inferInstance rfl rfl rfl rfl rfl inferInstance rfl ?_))
  refine Pw.condD rfl (fun c3 => ?_) (fun c3 => ?_)
  · obtain ⟨s, hsi, hsm⟩ := get_at (show i < l.length by omega)
    have em := map_take_snocT (f := rq) hsi
    obtain ⟨y, zs, rfl, hy, hyq⟩ := rtq_ex (hrq s hsm)
    rw [hyq] at em
    repeat (first | (with_reducible first | refine Pw.seq ?_ | refine Pw.region ?_ | refine Pw.nil ?_ | refine Pw.then_ ?_ | refine Pw.skip ?_ | refine Pw.block ?_ | refine Pw.exit ?_ | refine Pw.inX ?_ | refine Pw.inN ?_ | refine Pw.inR ?_ | refine Pw.thenX ?_ | refine Pw.thenR ?_ | refine Pw.ret ?_) | refine Pw.list (Pw.pure rfl rfl rfl ?_) | refine Pw.inY rfl ?_ | refine Pw.list (Pw.off rfl rfl ?_) | refine Pw.condT rfl ?_ | refine Pw.condF rfl ?_ | refine Pw.list (Pw.box rfl rfl rfl rfl (fun _ => ?_)) | refine Pw.list (Pw.alloc rfl rfl rfl rfl rfl (fun _ => ?_)) | refine Pw.list (Pw.build rfl rfl rfl rfl ?_) | refine Pw.list (Pw.ld rfl inferInstance rfl rfl rfl ?_) | refine Pw.list (Pw.sto rfl rfl inferInstance rfl rfl rfl rfl rfl inferInstance rfl ?_))
    refine Pw.list (Pw.index rfl rfl rfl rfl (Int.natCast_nonneg i) c3 (fun w h => (hv w h : RS l (A, c) w).has (Int.natCast_nonneg i) c3) rfl rfl ?_)
    rintro ad rfl
    refine Pw.list (Pw.loadR ⟨qn y, qd y, zs⟩ rfl inferInstance rfl (by rw [Int.toNat_natCast]; exact hsi) (by kernel_rfl) rfl rfl ?_)
    refine Pw.re (d := 43) (v' := qt y zs) rfl rfl ?_
    repeat (first | (with_reducible first | refine Pw.seq ?_ | refine Pw.region ?_ | refine Pw.nil ?_ | refine Pw.then_ ?_ | refine Pw.skip ?_ | refine Pw.block ?_ | refine Pw.exit ?_ | refine Pw.inX ?_ | refine Pw.inN ?_ | refine Pw.inR ?_ | refine Pw.thenX ?_ | refine Pw.thenR ?_ | refine Pw.ret ?_) | refine Pw.list (Pw.pure rfl rfl rfl ?_) | refine Pw.inY rfl ?_ | refine Pw.list (Pw.off rfl rfl ?_) | refine Pw.condT rfl ?_ | refine Pw.condF rfl ?_ | refine Pw.list (Pw.box rfl rfl rfl rfl (fun _ => ?_)) | refine Pw.list (Pw.alloc rfl rfl rfl rfl rfl (fun _ => ?_)) | refine Pw.list (Pw.build rfl rfl rfl rfl ?_) | refine Pw.list (Pw.ld rfl inferInstance rfl rfl rfl ?_) | refine Pw.list (Pw.sto rfl rfl inferInstance rfl rfl rfl rfl rfl inferInstance rfl ?_))
    refine freeHead ?_
    repeat (first | (with_reducible first | refine Pw.seq ?_ | refine Pw.region ?_ | refine Pw.nil ?_ | refine Pw.then_ ?_ | refine Pw.skip ?_ | refine Pw.block ?_ | refine Pw.exit ?_ | refine Pw.inX ?_ | refine Pw.inN ?_ | refine Pw.inR ?_ | refine Pw.thenX ?_ | refine Pw.thenR ?_ | refine Pw.ret ?_) | refine Pw.list (Pw.pure rfl rfl rfl ?_) | refine Pw.inY rfl ?_ | refine Pw.list (Pw.off rfl rfl ?_) | refine Pw.condT rfl ?_ | refine Pw.condF rfl ?_ | refine Pw.list (Pw.box rfl rfl rfl rfl (fun _ => ?_)) | refine Pw.list (Pw.alloc rfl rfl rfl rfl rfl (fun _ => ?_)) | refine Pw.list (Pw.build rfl rfl rfl rfl ?_) | refine Pw.list (Pw.ld rfl inferInstance rfl rfl rfl ?_) | refine Pw.list (Pw.sto rfl rfl inferInstance rfl rfl rfl rfl rfl inferInstance rfl ?_))
    by_cases hyv : y ≤ v
    · refine Pw.list (Pw.call (qSub_ct hvz hy zv zs (by omega) hyv) rfl rfl rfl (by kernel_rfl) rfl rfl (fun w h => ⟨(hv w h), (hv w h : heldR ⟨qn y, qd y, zs⟩ w)⟩) ?_)
      intro zx _
      rw [← gn_sub hyv]
      repeat (first | (with_reducible first | refine Pw.seq ?_ | refine Pw.region ?_ | refine Pw.nil ?_ | refine Pw.then_ ?_ | refine Pw.skip ?_ | refine Pw.block ?_ | refine Pw.exit ?_ | refine Pw.inX ?_ | refine Pw.inN ?_ | refine Pw.inR ?_ | refine Pw.thenX ?_ | refine Pw.thenR ?_ | refine Pw.ret ?_) | refine Pw.list (Pw.pure rfl rfl rfl ?_) | refine Pw.inY rfl ?_ | refine Pw.list (Pw.off rfl rfl ?_) | refine Pw.condT rfl ?_ | refine Pw.condF rfl ?_ | refine Pw.list (Pw.box rfl rfl rfl rfl (fun _ => ?_)) | refine Pw.list (Pw.alloc rfl rfl rfl rfl rfl (fun _ => ?_)) | refine Pw.list (Pw.build rfl rfl rfl rfl ?_) | refine Pw.list (Pw.ld rfl inferInstance rfl rfl rfl ?_) | refine Pw.list (Pw.sto rfl rfl inferInstance rfl rfl rfl rfl rfl inferInstance rfl ?_))
      refine freeHead ?_
      repeat (first | (with_reducible first | refine Pw.seq ?_ | refine Pw.region ?_ | refine Pw.nil ?_ | refine Pw.then_ ?_ | refine Pw.skip ?_ | refine Pw.block ?_ | refine Pw.exit ?_ | refine Pw.inX ?_ | refine Pw.inN ?_ | refine Pw.inR ?_ | refine Pw.thenX ?_ | refine Pw.thenR ?_ | refine Pw.ret ?_) | refine Pw.list (Pw.pure rfl rfl rfl ?_) | refine Pw.inY rfl ?_ | refine Pw.list (Pw.off rfl rfl ?_) | refine Pw.condT rfl ?_ | refine Pw.condF rfl ?_ | refine Pw.list (Pw.box rfl rfl rfl rfl (fun _ => ?_)) | refine Pw.list (Pw.alloc rfl rfl rfl rfl rfl (fun _ => ?_)) | refine Pw.list (Pw.build rfl rfl rfl rfl ?_) | refine Pw.list (Pw.ld rfl inferInstance rfl rfl rfl ?_) | refine Pw.list (Pw.sto rfl rfl inferInstance rfl rfl rfl rfl rfl inferInstance rfl ?_))
      refine Pw.list (Pw.lit12 rfl rfl rfl rfl rfl rfl rfl rfl rfl (fun g45 => freeHead ?_))
      refine Pw.perm permG3 ?_
      refine Pw.list (Pw.push (s := q) (m := i) (cells := cellsR rs) (news := encR ⟨qn (gn v y), qd (gn v y), zx⟩) rfl rfl rfl rfl rfl rfl rfl hqo rfl (encR_one _) (fun w hs j' u hu => by
        have h1 : w.heap[g45]? = some (row (encR ⟨qn (gn v y), qd (gn v y), zx⟩) 37) := fact0 hs.all
        rw [add_none, cell_of_blk h1]
        simpa using hu) (by omega) (by simp only [maxLen]; omega) (by show (i + 1) * 48 ≤ _; omega) rfl rfl (fun q' hq' => ?_))
      rw [← cellsR_snoc] at hq' ⊢
      refine Pw.perm permG3.symm ?_
      repeat (first | (with_reducible first | refine Pw.seq ?_ | refine Pw.region ?_ | refine Pw.nil ?_ | refine Pw.then_ ?_ | refine Pw.skip ?_ | refine Pw.block ?_ | refine Pw.exit ?_ | refine Pw.inX ?_ | refine Pw.inN ?_ | refine Pw.inR ?_ | refine Pw.thenX ?_ | refine Pw.thenR ?_ | refine Pw.ret ?_) | refine Pw.list (Pw.pure rfl rfl rfl ?_) | refine Pw.inY rfl ?_ | refine Pw.list (Pw.off rfl rfl ?_) | refine Pw.condT rfl ?_ | refine Pw.condF rfl ?_ | refine Pw.list (Pw.box rfl rfl rfl rfl (fun _ => ?_)) | refine Pw.list (Pw.alloc rfl rfl rfl rfl rfl (fun _ => ?_)) | refine Pw.list (Pw.build rfl rfl rfl rfl ?_) | refine Pw.list (Pw.ld rfl inferInstance rfl rfl rfl ?_) | refine Pw.list (Pw.sto rfl rfl inferInstance rfl rfl rfl rfl rfl inferInstance rfl ?_))
      refine Pw.re (d := 40) (v' := .int .i64 ((i + 1 : Nat) : Int)) rfl (congrArg (Value.int .i64) (i64s (n := 100000) (by omega) (by omega))) ?_
      exact Pw.again (i + 1, q', rs ++ [⟨qn (gn v y), qd (gn v y), zx⟩]) ⟨by omega, by rw [List.map_append, hrs, em]; unfold outT; rw [List.map_append]; rfl, hq'⟩ (by show l.length - (i + 1) < l.length - i; omega) ⟨rfl, rfl, rfl, rfl, rfl, trivial⟩ rfl (fun w h => allCons (hv w h) (allCons (hv w h) (allCons (fun r hr => by
        rcases List.mem_append.1 hr with hr | hr
        · exact (hv w h : AllR rs w) r hr
        · rw [List.mem_singleton.1 hr]
          exact (hv w h : QW (gn v y) zx w)) allNil)))
    · have hvy : v < y := Rat.not_le.1 hyv
      refine Pw.list (Pw.call (qSubLt_ct hvz hy zv zs (by omega) hvy) rfl rfl rfl (by kernel_rfl) rfl rfl (fun w h => ⟨(hv w h), (hv w h : heldR ⟨qn y, qd y, zs⟩ w)⟩) ?_)
      intro z3 _
      repeat (first | (with_reducible first | refine Pw.seq ?_ | refine Pw.region ?_ | refine Pw.nil ?_ | refine Pw.then_ ?_ | refine Pw.skip ?_ | refine Pw.block ?_ | refine Pw.exit ?_ | refine Pw.inX ?_ | refine Pw.inN ?_ | refine Pw.inR ?_ | refine Pw.thenX ?_ | refine Pw.thenR ?_ | refine Pw.ret ?_) | refine Pw.list (Pw.pure rfl rfl rfl ?_) | refine Pw.inY rfl ?_ | refine Pw.list (Pw.off rfl rfl ?_) | refine Pw.condT rfl ?_ | refine Pw.condF rfl ?_ | refine Pw.list (Pw.box rfl rfl rfl rfl (fun _ => ?_)) | refine Pw.list (Pw.alloc rfl rfl rfl rfl rfl (fun _ => ?_)) | refine Pw.list (Pw.build rfl rfl rfl rfl ?_) | refine Pw.list (Pw.ld rfl inferInstance rfl rfl rfl ?_) | refine Pw.list (Pw.sto rfl rfl inferInstance rfl rfl rfl rfl rfl inferInstance rfl ?_))
      refine Pw.list (Pw.call (qOf_ct (n := 0) (by omega) (by omega)) rfl rfl rfl (by kernel_rfl) rfl rfl (fun w h => trivial) ?_)
      intro zx _
      rw [show (((0 : Int) : Rat)) = gn v y by rw [gn_zero hvy]; rfl]
      repeat (first | (with_reducible first | refine Pw.seq ?_ | refine Pw.region ?_ | refine Pw.nil ?_ | refine Pw.then_ ?_ | refine Pw.skip ?_ | refine Pw.block ?_ | refine Pw.exit ?_ | refine Pw.inX ?_ | refine Pw.inN ?_ | refine Pw.inR ?_ | refine Pw.thenX ?_ | refine Pw.thenR ?_ | refine Pw.ret ?_) | refine Pw.list (Pw.pure rfl rfl rfl ?_) | refine Pw.inY rfl ?_ | refine Pw.list (Pw.off rfl rfl ?_) | refine Pw.condT rfl ?_ | refine Pw.condF rfl ?_ | refine Pw.list (Pw.box rfl rfl rfl rfl (fun _ => ?_)) | refine Pw.list (Pw.alloc rfl rfl rfl rfl rfl (fun _ => ?_)) | refine Pw.list (Pw.build rfl rfl rfl rfl ?_) | refine Pw.list (Pw.ld rfl inferInstance rfl rfl rfl ?_) | refine Pw.list (Pw.sto rfl rfl inferInstance rfl rfl rfl rfl rfl inferInstance rfl ?_))
      refine freeHead ?_
      repeat (first | (with_reducible first | refine Pw.seq ?_ | refine Pw.region ?_ | refine Pw.nil ?_ | refine Pw.then_ ?_ | refine Pw.skip ?_ | refine Pw.block ?_ | refine Pw.exit ?_ | refine Pw.inX ?_ | refine Pw.inN ?_ | refine Pw.inR ?_ | refine Pw.thenX ?_ | refine Pw.thenR ?_ | refine Pw.ret ?_) | refine Pw.list (Pw.pure rfl rfl rfl ?_) | refine Pw.inY rfl ?_ | refine Pw.list (Pw.off rfl rfl ?_) | refine Pw.condT rfl ?_ | refine Pw.condF rfl ?_ | refine Pw.list (Pw.box rfl rfl rfl rfl (fun _ => ?_)) | refine Pw.list (Pw.alloc rfl rfl rfl rfl rfl (fun _ => ?_)) | refine Pw.list (Pw.build rfl rfl rfl rfl ?_) | refine Pw.list (Pw.ld rfl inferInstance rfl rfl rfl ?_) | refine Pw.list (Pw.sto rfl rfl inferInstance rfl rfl rfl rfl rfl inferInstance rfl ?_))
      refine Pw.list (Pw.lit12 rfl rfl rfl rfl rfl rfl rfl rfl rfl (fun g45 => freeHead ?_))
      refine Pw.perm permG3 ?_
      refine Pw.list (Pw.push (s := q) (m := i) (cells := cellsR rs) (news := encR ⟨qn (gn v y), qd (gn v y), zx⟩) rfl rfl rfl rfl rfl rfl rfl hqo rfl (encR_one _) (fun w hs j' u hu => by
        have h1 : w.heap[g45]? = some (row (encR ⟨qn (gn v y), qd (gn v y), zx⟩) 37) := fact0 hs.all
        rw [add_none, cell_of_blk h1]
        simpa using hu) (by omega) (by simp only [maxLen]; omega) (by show (i + 1) * 48 ≤ _; omega) rfl rfl (fun q' hq' => ?_))
      rw [← cellsR_snoc] at hq' ⊢
      refine Pw.perm permG3.symm ?_
      repeat (first | (with_reducible first | refine Pw.seq ?_ | refine Pw.region ?_ | refine Pw.nil ?_ | refine Pw.then_ ?_ | refine Pw.skip ?_ | refine Pw.block ?_ | refine Pw.exit ?_ | refine Pw.inX ?_ | refine Pw.inN ?_ | refine Pw.inR ?_ | refine Pw.thenX ?_ | refine Pw.thenR ?_ | refine Pw.ret ?_) | refine Pw.list (Pw.pure rfl rfl rfl ?_) | refine Pw.inY rfl ?_ | refine Pw.list (Pw.off rfl rfl ?_) | refine Pw.condT rfl ?_ | refine Pw.condF rfl ?_ | refine Pw.list (Pw.box rfl rfl rfl rfl (fun _ => ?_)) | refine Pw.list (Pw.alloc rfl rfl rfl rfl rfl (fun _ => ?_)) | refine Pw.list (Pw.build rfl rfl rfl rfl ?_) | refine Pw.list (Pw.ld rfl inferInstance rfl rfl rfl ?_) | refine Pw.list (Pw.sto rfl rfl inferInstance rfl rfl rfl rfl rfl inferInstance rfl ?_))
      refine Pw.re (d := 40) (v' := .int .i64 ((i + 1 : Nat) : Int)) rfl (congrArg (Value.int .i64) (i64s (n := 100000) (by omega) (by omega))) ?_
      exact Pw.again (i + 1, q', rs ++ [⟨qn (gn v y), qd (gn v y), zx⟩]) ⟨by omega, by rw [List.map_append, hrs, em]; unfold outT; rw [List.map_append]; rfl, hq'⟩ (by show l.length - (i + 1) < l.length - i; omega) ⟨rfl, rfl, rfl, rfl, rfl, trivial⟩ rfl (fun w h => allCons (hv w h) (allCons (hv w h) (allCons (fun r hr => by
        rcases List.mem_append.1 hr with hr | hr
        · exact (hv w h : AllR rs w) r hr
        · rw [List.mem_singleton.1 hr]
          exact (hv w h : QW (gn v y) zx w)) allNil)))
  · obtain rfl : i = l.length := by omega
    rw [List.take_length] at hrs
    have hrl : rs.length = l.length := by have := congrArg List.length hrs; rw [List.length_map] at this; rw [this]; simp [outT]
    repeat (first | (with_reducible first | refine Pw.seq ?_ | refine Pw.region ?_ | refine Pw.nil ?_ | refine Pw.then_ ?_ | refine Pw.skip ?_ | refine Pw.block ?_ | refine Pw.exit ?_ | refine Pw.inX ?_ | refine Pw.inN ?_ | refine Pw.inR ?_ | refine Pw.thenX ?_ | refine Pw.thenR ?_ | refine Pw.ret ?_) | refine Pw.list (Pw.pure rfl rfl rfl ?_) | refine Pw.inY rfl ?_ | refine Pw.list (Pw.off rfl rfl ?_) | refine Pw.condT rfl ?_ | refine Pw.condF rfl ?_ | refine Pw.list (Pw.box rfl rfl rfl rfl (fun _ => ?_)) | refine Pw.list (Pw.alloc rfl rfl rfl rfl rfl (fun _ => ?_)) | refine Pw.list (Pw.build rfl rfl rfl rfl ?_) | refine Pw.list (Pw.ld rfl inferInstance rfl rfl rfl ?_) | refine Pw.list (Pw.sto rfl rfl inferInstance rfl rfl rfl rfl rfl inferInstance rfl ?_))
    refine Pw.drop ?_
    refine Pw.eqL (L' := gL q (cellsR rs) 37 ++ []) rfl ?_
    refine Pw.freeG hqo (fun A' c' e hc => ?_)
    refine Pw.re (d := 4) (v' := rsV rs (A', c')) rfl (by rw [e]; show Value.slice A' l.length c' = Value.slice A' rs.length c'; rw [hrl]) ?_
    exact Pw.ret_ (x := (rs, (A', c'), 0)) (.tmp rfl (.tmp rfl .nil)) rfl (by unfold TurnP; rw [if_neg (by rw [hbad]; simp)]; exact ⟨rfl, v, hlev, hvb, hrs⟩) (fun w h => rows_of_cells (fun _ _ => rfl) (fun y hy => (hv w h : AllR rs w) y hy) (by rw [hrl]; exact hc) (by rw [hrl]; simp only [maxLen]; omega) (by omega) (fact0 h))
end Go.Proofs.Wk
