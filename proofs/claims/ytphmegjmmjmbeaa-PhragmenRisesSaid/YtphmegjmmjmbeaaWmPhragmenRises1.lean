/- Walks and their mathematics, merged. No conditions beyond those written. -/
import Derived.Test.YtphmegjmmjmbeaaWmPhragmenRises0
import Derived.MapKept
import Derived.RangeFuncIn
import Derived.RangeFuncRecord
import Derived.RangeFuncLeaves
import Derived.RangeFuncOwn
import Derived.OwnWalkIn
import Derived.TacticsIn
import Derived.Laws.StructEq
/- What small, shift and unshift of layer 1 come to. Conditions: lists of limbs, of fewer than 2^38 elements; a shift by at most 31 bits. -/
namespace Go.Proofs.Wk
open Go.RowKit
set_option linter.unusedSimpArgs false
set_option linter.unusedVariables false

/-- Powers of two. -/
def p2 (n : Nat) : Int := 2 ^ n
theorem p2_nat (n : Nat) : p2 n = ((2 ^ n : Nat) : Int) := by unfold p2; simp
theorem p2_pos (n : Nat) : 0 < p2 n := by rw [p2_nat]; have := Nat.pow_pos (n := n) (show 0 < 2 by omega); omega
theorem p2_add (m n : Nat) : p2 (m + n) = p2 m * p2 n := by unfold p2; rw [Int.pow_add]
theorem p2_succ (n : Nat) : p2 (n + 1) = 2 * p2 n := by unfold p2; rw [Int.pow_succ]; omega
theorem p2_le {m n : Nat} (h : m ≤ n) : p2 m ≤ p2 n := by
  rw [p2_nat, p2_nat]; exact Int.ofNat_le.mpr (Nat.pow_le_pow_right (by omega) h)
theorem p2_31 {s : Nat} (h : s ≤ 31) : p2 s ≤ 2147483648 := by
  have := p2_le h; rw [show p2 31 = 2147483648 by decide +kernel] at this; exact this
theorem p2_32 {s : Nat} (h : s ≤ 32) : p2 s * p2 (32 - s) = 4294967296 := by
  rw [← p2_add, show s + (32 - s) = 32 by omega]; decide +kernel
theorem p2_pw (n : Nat) : p2 (32 * n) = pw n := by
  induction n with
  | zero => rw [pw_zero]; decide +kernel
  | succ n ih => rw [show 32 * (n + 1) = 32 * n + 32 by omega, p2_add, ih, pw_succ, show p2 32 = 4294967296 by decide +kernel]
theorem shl_u64 {x : Int} {s : Nat} (hx : 0 ≤ x ∧ x ≤ 4294967295) (hs : s ≤ 31) : shl .u64 x (s : Int) = x * p2 s := by
  unfold shl
  rw [show min ((s : Int)).toNat IntKind.u64.bits = s by simp [IntKind.bits]; omega]
  have h1 := p2_31 hs; have h2 := p2_pos s
  have h3 := Int.mul_le_mul hx.2 h1 (by omega) (by omega : (0 : Int) ≤ 4294967295)
  have h4 := Int.mul_nonneg hx.1 (show 0 ≤ p2 s by omega)
  exact wu (n := x * 2 ^ s) h4 (Int.le_trans h3 (by omega))
theorem shr_nat {k : IntKind} {x : Int} {s : Nat} (hs : s ≤ k.bits) : shr k x (s : Int) = x / p2 s := by
  unfold shr p2; rw [show min ((s : Int)).toNat k.bits = s by omega]
theorem or32 {c y : Int} {s : Nat} (hs : s ≤ 32) (hc0 : 0 ≤ c) (hc : c < p2 s) (hy0 : 0 ≤ y) (hy : y ≤ 4294967295) (hd : y % p2 s = 0) : Go.bits .or .u32 c y = c + y := by
  obtain ⟨c', rfl⟩ := Int.eq_ofNat_of_zero_le hc0
  obtain ⟨y', rfl⟩ := Int.eq_ofNat_of_zero_le hy0
  rw [p2_nat] at hc hd
  have hc2 : c' < 2 ^ s := by omega
  have hd2 : y' % 2 ^ s = 0 := by
    have : ((y' % 2 ^ s : Nat) : Int) = 0 := by rw [Int.natCast_emod]; exact hd
    omega
  obtain ⟨t, rfl⟩ : ∃ t, y' = 2 ^ s * t := ⟨y' / 2 ^ s, by have := Nat.div_add_mod y' (2 ^ s); omega⟩
  have h32 : 2 ^ s ≤ 2 ^ 32 := Nat.pow_le_pow_right (by omega) hs
  rw [Go.u32_or_nat _ _ (by omega) (by omega), Nat.or_comm, ← Nat.two_pow_add_eq_or_of_lt hc2]
  omega

/- the one-limb quotient -/
theorem small_step {b D Q R x t q : Int} (hD : D = b * Q + R) (ht : t = R * 4294967296 + x) (hq : t = b * q + t % b) : x + 4294967296 * D = b * (q + 4294967296 * Q) + t % b := by grind
theorem small_loop {a : List Int} (ha : Lm a) {b : Int} (hb0 : 0 < b) (hb1 : b ≤ 4294967295) (hl : a.length < 274877906944) : ∀ (i k : Nat) (out : List Int) (r : Int),
    i ≤ a.length → out.length = a.length → Lm out → 0 ≤ r → r < b → val (a.drop i) = b * val (out.drop i) + r → a.length + i + 3 < k →
    limb_small.l0 k a b out r ((i : Int) - 1) = some (natL (val a / b), natL (val a % b)) := by
  intro i
  induction i with
  | zero =>
    intro k out r hi hol hm hr0 hr1 hv hk
    obtain ⟨k, rfl⟩ : ∃ m, k = m + 1 := ⟨k - 1, by omega⟩
    simp only [limb_small.l0]
    rw [if_neg (by omega), trim_ev (by omega) (by omega), trim_natL hm]; simp only [Option.bind_some]
    rw [trim_ev (by simp) (by simp; omega), Int.emod_eq_of_lt hr0 (by omega), trim_natL (Lm.cons (by omega) Lm.nil)]; simp only [Option.bind_some]
    rw [List.drop_zero, List.drop_zero] at hv
    have hq : val a / b = val out := by
      rw [hv, Int.add_ediv_of_dvd_left ⟨_, rfl⟩, Int.mul_ediv_cancel_left _ (by omega), Int.ediv_eq_zero_of_lt hr0 hr1]; omega
    have hr : val a % b = r := by
      rw [hv, Int.add_comm, Int.add_mul_emod_self_left, Int.emod_eq_of_lt hr0 hr1]
    rw [hq, hr]; simp [val]
  | succ i ih =>
    intro k out r hi hol hm hr0 hr1 hv hk
    obtain ⟨k, rfl⟩ : ∃ m, k = m + 1 := ⟨k - 1, by omega⟩
    have hx := ha.rd (i := (i : Int))
    have e0 : (((i + 1 : Nat) : Int) - 1) = (i : Int) := by omega
    have hR : 0 ≤ r * 4294967296 ∧ r * 4294967296 ≤ 18446744069414584320 := by omega
    have hor := or_low hx.1 hx.2 hr0 (show r ≤ 4294967295 by omega)
    simp only [limb_small.l0]
    rw [e0, if_pos (by omega), if_pos (by omega), if_pos (by omega), wu (n := b) (by omega) (by omega), if_neg (by omega), if_pos (by omega), wu (n := r * 4294967296) (by omega) (by omega), wu (n := rd a (i : Int)) (by omega) (by omega), hor, show ((i : Int)).toNat = i by omega, wi64 (n := (i : Int) - 1) (by omega) (by omega)]
    obtain ⟨t, ht⟩ : ∃ t, t = r * 4294967296 + rd a (i : Int) := ⟨_, rfl⟩
    rw [← ht, Int.tdiv_eq_ediv_of_nonneg (by omega), Int.tmod_eq_emod_of_nonneg (by omega)]
    have hm0 := Int.emod_nonneg t (show b ≠ 0 by omega)
    have hm1 := Int.emod_lt_of_pos t hb0
    have hd0 := Int.ediv_nonneg (show 0 ≤ t by omega) (show 0 ≤ b by omega)
    have hda := Int.mul_ediv_add_emod t b
    have hq1 : t / b ≤ 4294967295 := by
      have h1 : t / b < 4294967296 := by
        apply Int.ediv_lt_of_lt_mul hb0
        have := Int.mul_le_mul_of_nonneg_right (show r + 1 ≤ b by omega) (show (0 : Int) ≤ 4294967296 by omega)
        rw [Int.add_mul] at this
        rw [Int.mul_comm 4294967296 b]; omega
      omega
    rw [wu (n := t / b) hd0 (by omega), Int.emod_eq_of_lt hd0 (by omega)]
    refine ih k (out.set i (t / b)) (t % b) (by omega) (by simp; omega) (hm.set _ ⟨hd0, hq1⟩) hm0 hm1 ?_ (by omega)
    have d1 := drop_rd (xs := a) (i := (i : Int)) (by omega) (by omega)
    have d2 := drop_rd (xs := out.set i (t / b)) (i := (i : Int)) (by omega) (by simp; omega)
    rw [show ((i : Int)).toNat = i by omega, show ((i : Int) + 1).toNat = i + 1 by omega] at d1 d2
    have d3 : (out.set i (t / b)).drop (i + 1) = out.drop (i + 1) := List.drop_set_of_lt (by omega)
    rw [rd_set_eq (by omega), d3] at d2
    rw [d1, d2]; simp only [val]
    exact small_step hv ht hda.symm
theorem small_ev {a : List Int} (ha : Lm a) {b : Int} (hb0 : 0 < b) (hb1 : b ≤ 4294967295) (hl : a.length < 274877906944) {k : Nat} (hk : 2 * a.length + 3 < k) : limb_small.f k a b = some (natL (val a / b), natL (val a % b)) := by
  unfold limb_small.f
  rw [if_pos (by omega), if_pos (by omega), wi64 (n := (a.length : Int) - 1) (by omega) (by omega), show ((a.length : Int)).toNat = a.length by omega]
  refine small_loop ha hb0 hb1 hl a.length k _ 0 (by omega) (by simp) (Lm.zeros _) (by omega) hb0 ?_ (by omega)
  rw [List.drop_eq_nil_of_le (by omega), List.drop_eq_nil_of_le (by simp)]; simp [val]

/- shift -/
theorem shift_step {V P c A p x y l h : Int} (hV : V + P * c = A * p) (hy : y = x * p) (hl : y = l + 4294967296 * h) : V + P * (c + l) + P * 4294967296 * h = (A + P * x) * p := by grind
theorem shift_loop {a : List Int} (ha : Lm a) {s : Nat} (hs : s ≤ 31) (hl : a.length < 274877906944) : ∀ (d i k : Nat) (out : List Int),
    i + d = a.length → out.length = a.length + 1 → Lm out → rd out (i : Int) < p2 s → val (out.take i) + pw i * rd out (i : Int) = val (a.take i) * p2 s → d < k →
    ∃ out', limb_shift.l0 k (s : Int) out a (a.length : Int) (i : Int) = some out' ∧ out'.length = a.length + 1 ∧ Lm out' ∧ val out' = val a * p2 s := by
  intro d
  induction d with
  | zero =>
    intro i k out hi hol hm hc hv hk
    obtain ⟨k, rfl⟩ : ∃ m, k = m + 1 := ⟨k - 1, by omega⟩
    obtain rfl : i = a.length := by omega
    refine ⟨out, ?_, hol, hm, ?_⟩
    · simp only [limb_shift.l0]; rw [if_neg (by omega)]
    · have e := val_take_succ out a.length
      rw [List.take_of_length_le (by omega), hv, List.take_length] at e; exact e
  | succ d ih =>
    intro i k out hi hol hm hc hv hk
    obtain ⟨k, rfl⟩ : ∃ m, k = m + 1 := ⟨k - 1, by omega⟩
    have hx := ha.rd (i := (i : Int)); have ho := hm.rd (i := (i : Int))
    have hp0 := p2_pos s; have hp1 := p2_31 hs; have hpp := p2_32 (show s ≤ 32 by omega)
    obtain ⟨x, hxe⟩ : ∃ x, x = rd a (i : Int) := ⟨_, rfl⟩
    rw [← hxe] at hx
    obtain ⟨y, hye⟩ : ∃ y, y = x * p2 s := ⟨_, rfl⟩
    have hy0 : 0 ≤ y := by rw [hye]; exact Int.mul_nonneg hx.1 (by omega)
    have hy1 : y ≤ 4294967295 * p2 s := by rw [hye]; exact Int.mul_le_mul_of_nonneg_right hx.2 (by omega)
    have hlow : (y % 4294967296) % p2 s = 0 := by
      have hdvd : p2 s ∣ (4294967296 : Int) := ⟨p2 (32 - s), hpp.symm⟩
      rw [Int.emod_emod_of_dvd _ hdvd, hye, Int.mul_emod_left]
    have hhi : y / 4294967296 < p2 s := by
      apply Int.ediv_lt_of_lt_mul (by omega); omega
    have hor := or32 (c := rd out (i : Int)) (y := y % 4294967296) (show s ≤ 32 by omega) ho.1 hc (by omega) (by omega) hlow
    have hsum : rd out (i : Int) + y % 4294967296 ≤ 4294967295 := by
      -- both are below: the low part is a multiple of p2 s below 2^32
      have h1 := Int.mul_ediv_add_emod (y % 4294967296) (p2 s)
      rw [hlow] at h1
      have h2 : (y % 4294967296) / p2 s < p2 (32 - s) := by
        apply Int.ediv_lt_of_lt_mul hp0; rw [Int.mul_comm, hpp]; omega
      have h3 := Int.mul_le_mul_of_nonneg_left (show (y % 4294967296) / p2 s + 1 ≤ p2 (32 - s) by omega) (show 0 ≤ p2 s by omega)
      rw [Int.mul_add, hpp] at h3
      omega
    simp only [limb_shift.l0]
    rw [if_pos (by omega), if_pos (by omega), if_pos (by omega), if_pos (by omega), if_pos (by omega), wsucc (by omega), if_pos (by omega), if_pos (by omega), ← hxe, wu (n := x) (by omega) (by omega), shl_u64 hx hs, ← hye, hor, show ((i : Int)).toNat = i by omega, show (((i + 1 : Nat) : Int)).toNat = i + 1 by omega, Int.emod_eq_of_lt (a := y / 4294967296) (by omega) (by omega)]
    have l1 : ((out.set i (rd out (i : Int) + y % 4294967296)).set (i + 1) (y / 4294967296)).length = a.length + 1 := by rw [List.length_set, List.length_set]; exact hol
    refine ih (i + 1) k _ (by omega) l1 ((hm.set _ ⟨by omega, hsum⟩).set _ (by omega)) ?_ ?_ (by omega)
    · rw [rd_set_eq (by rw [List.length_set]; omega)]; exact hhi
    · rw [rd_set_eq (by rw [List.length_set]; omega), take_set_le (Nat.le_refl _), val_take_set (by omega), val_take_succ a, pw_succ, ← hxe]
      exact shift_step hv hye (by omega)
theorem shift_ev {a : List Int} (ha : Lm a) {s : Nat} (hs : s ≤ 31) (hl : a.length < 274877906944) {k : Nat} (hk : a.length < k) :
    ∃ out, limb_shift.f k a (s : Int) = some out ∧ out.length = a.length + 1 ∧ Lm out ∧ val out = val a * p2 s := by
  unfold limb_shift.f
  rw [wi64 (n := (a.length : Int) + 1) (by omega) (by omega), if_pos (by omega), if_pos (by omega), show ((a.length : Int) + 1).toNat = a.length + 1 by omega]
  refine shift_loop ha hs hl a.length 0 k _ (by omega) (by simp) (Lm.zeros _) ?_ ?_ hk
  · have := p2_pos s
    rw [rd_getElem (by simp)]; simp; omega
  · rw [rd_getElem (by simp)]; simp [val]

/- unshift -/
theorem unshift_loop {a : List Int} (ha : Lm a) {s : Nat} (hs : s ≤ 31) (hl : a.length < 274877906944) : ∀ (d i k : Nat) (out : List Int),
    i + d = a.length → out.length = a.length → Lm out → val (out.take i) + pw i * (val (a.drop i) / p2 s) = val a / p2 s → a.length + d + 2 < k →
    limb_unshift.l0 k a (s : Int) out (a.length : Int) (i : Int) = some (natL (val a / p2 s)) := by
  intro d
  induction d with
  | zero =>
    intro i k out hi hol hm hv hk
    obtain ⟨k, rfl⟩ : ∃ m, k = m + 1 := ⟨k - 1, by omega⟩
    obtain rfl : i = a.length := by omega
    simp only [limb_unshift.l0]
    rw [if_neg (by omega), trim_ev (by omega) (by omega), trim_natL hm]; simp only [Option.bind_some]
    rw [List.take_of_length_le (by omega), List.drop_eq_nil_of_le (by omega)] at hv
    simp only [val, Int.zero_ediv, Int.mul_zero, Int.add_zero] at hv
    rw [hv]
  | succ d ih =>
    intro i k out hi hol hm hv hk
    obtain ⟨k, rfl⟩ : ∃ m, k = m + 1 := ⟨k - 1, by omega⟩
    have hx := ha.rd (i := (i : Int)); have hy := ha.rd (i := ((i + 1 : Nat) : Int))
    have hp0 := p2_pos s; have hp1 := p2_31 hs; have hpp := p2_32 (show s ≤ 32 by omega)
    have d1 := drop_rd (xs := a) (i := (i : Int)) (by omega) (by omega)
    rw [show ((i : Int)).toNat = i by omega, show ((i : Int) + 1).toNat = i + 1 by omega] at d1
    have hV := val_nonneg (ha.drop (i + 1))
    -- what stands behind
    have hdiv : val (a.drop i) / p2 s / 4294967296 = val (a.drop (i + 1)) / p2 s := by
      rw [d1]; simp only [val]
      rw [Int.ediv_ediv_of_nonneg (by omega), Int.mul_comm (p2 s), ← Int.ediv_ediv_of_nonneg (by omega)]
      congr 1; omega
    have go : ∀ o : Int, o = (val (a.drop i) / p2 s) % 4294967296 → limb_unshift.l0 k a (s : Int) (out.set i o) (a.length : Int) ((i + 1 : Nat) : Int) = some (natL (val a / p2 s)) := by
      intro o ho
      refine ih (i + 1) k _ (by omega) (by rw [List.length_set]; exact hol) (hm.set _ (by omega)) ?_ (by omega)
      rw [val_take_set (by omega), pw_succ, ← hdiv, ho, ← hv]
      have := Int.emod_add_mul_ediv (val (a.drop i) / p2 s) 4294967296
      grind
    simp only [limb_unshift.l0]
    rw [if_pos (by omega), if_pos (by omega), if_pos (by omega), wsucc (by omega), show ((i : Int)).toNat = i by omega]
    by_cases hn : ((i + 1 : Nat) : Int) < (a.length : Int)
    · have d2 := drop_rd (xs := a) (i := ((i + 1 : Nat) : Int)) (by omega) (by omega)
      rw [show (((i + 1 : Nat) : Int)).toNat = i + 1 by omega, show (((i + 1 : Nat) : Int) + 1).toNat = i + 2 by omega] at d2
      have hor := or_high hx.1 hx.2 hy.1 hy.2
      rw [if_pos hn, if_pos (by omega), if_pos (by omega), if_pos (by omega), wu (n := rd a (i : Int)) (by omega) (by omega), wu (n := rd a ((i + 1 : Nat) : Int)) (by omega) (by omega), wu (n := rd a ((i + 1 : Nat) : Int) * 4294967296) (by omega) (by omega), hor, shr_nat (by simp [IntKind.bits]; omega)]
      refine go _ ?_
      rw [d1, d2]; simp only [val]
      obtain ⟨T, hT⟩ : ∃ T, T = rd a ((i + 1 : Nat) : Int) * 4294967296 + rd a (i : Int) := ⟨_, rfl⟩
      rw [← hT]
      have e1 : rd a (i : Int) + 4294967296 * (rd a ((i + 1 : Nat) : Int) + 4294967296 * val (a.drop (i + 2))) = T + p2 s * (4294967296 * (p2 (32 - s) * val (a.drop (i + 2)))) := by
        rw [hT]
        have : p2 s * (4294967296 * (p2 (32 - s) * val (a.drop (i + 2)))) = (p2 s * p2 (32 - s)) * (4294967296 * val (a.drop (i + 2))) := by grind
        rw [this, hpp]; omega
      rw [e1, Int.add_mul_ediv_left _ _ (by omega), Int.add_mul_emod_self_left]
    · have hz : val (a.drop (i + 1)) = 0 := by rw [List.drop_eq_nil_of_le (by omega)]; rfl
      rw [if_neg hn, if_pos (by omega), if_pos (by omega), wu (n := rd a (i : Int)) (by omega) (by omega), shr_nat (by simp [IntKind.bits]; omega)]
      refine go _ ?_
      rw [d1]; simp only [val]; rw [hz]; simp
theorem unshift_ev {a : List Int} (ha : Lm a) {s : Nat} (hs : s ≤ 31) (hl : a.length < 274877906944) {k : Nat} (hk : 2 * a.length + 2 < k) : limb_unshift.f k a (s : Int) = some (natL (val a / p2 s)) := by
  unfold limb_unshift.f
  rw [if_pos (by omega), if_pos (by omega), show ((a.length : Int)).toNat = a.length by omega]
  refine unshift_loop ha hs hl a.length 0 k _ (by omega) (by simp) (Lm.zeros _) ?_ (by omega)
  simp [val, pw_zero]

end Go.Proofs.Wk
/- What guess, take and give of layer 1 come to: a quotient's limb, at most one too great; what is taken and given. Conditions: lists of limbs, of fewer than 2^38 elements. -/
namespace Go.Proofs.Wk
open Go.RowKit
set_option linter.unusedSimpArgs false
set_option linter.unusedVariables false

theorem mul_le2 {x y : Int} (hx : 0 ≤ x ∧ x ≤ 4294967295) (hy : 0 ≤ y ∧ y ≤ 4294967295) : 0 ≤ x * y ∧ x * y ≤ 18446744065119617025 := by
  have h1 := Int.mul_nonneg hx.1 hy.1
  have h2 := Int.mul_le_mul hx.2 hy.2 hy.1 (by omega : (0 : Int) ≤ 4294967295)
  omega

/- take -/
theorem take_step {V P c br U W q x y o d p br' : Int} (hV : V = U - q * W + P * (c + br)) (hp : p = c + q * y) (hd : d = x - p % 4294967296 - br) (ho : o = d + 4294967296 * br') :
    V + P * o = U + P * x - q * (W + P * y) + P * 4294967296 * (p / 4294967296 + br') := by
  have := Int.emod_add_mul_ediv p 4294967296
  grind
theorem take_loop {u v : List Int} (hu : Lm u) (hv : Lm v) {q : Int} (hq : 0 ≤ q ∧ q ≤ 4294967295) (hlu : u.length < 274877906944) (hlv : v.length < 274877906944) : ∀ (d i k : Nat) (out : List Int) (c br : Int),
    i + d = u.length → out.length = u.length → Lm out → (∀ j : Int, (i : Int) ≤ j → rd out j = rd u j) → 0 ≤ c → c ≤ 4294967295 → 0 ≤ br → br ≤ 1 → val (out.take i) = val (u.take i) - q * val (v.take i) + pw i * (c + br) → (v.length < i → c = 0) → d < k →
    ∃ (b : Bool) (out' : List Int) (c' br' : Int), limb_take.l0 k out v q c br (u.length : Int) (i : Int) = some (b, out') ∧ out'.length = u.length ∧ Lm out' ∧ 0 ≤ c' ∧ c' ≤ 4294967295 ∧ 0 ≤ br' ∧ br' ≤ 1 ∧ (b = true ↔ br' = 1) ∧ val out' = val u - q * val (v.take u.length) + pw u.length * (c' + br') ∧ (v.length < u.length → c' = 0) := by
  intro d
  induction d with
  | zero =>
    intro i k out c br hi hol hm hsame hc0 hc1 hb0 hb1 hval hcz hk
    obtain ⟨k, rfl⟩ : ∃ m, k = m + 1 := ⟨k - 1, by omega⟩
    obtain rfl : i = u.length := by omega
    refine ⟨br != 0, out, c, br, ?_, hol, hm, hc0, hc1, hb0, hb1, ?_, ?_, hcz⟩
    · simp only [limb_take.l0]; rw [if_neg (by omega)]
    · rcases (show br = 0 ∨ br = 1 by omega) with h | h <;> subst h <;> simp
    · rw [List.take_of_length_le (by omega), List.take_length] at hval; exact hval
  | succ d ih =>
    intro i k out c br hi hol hm hsame hc0 hc1 hb0 hb1 hval hcz hk
    obtain ⟨k, rfl⟩ : ∃ m, k = m + 1 := ⟨k - 1, by omega⟩
    have hx := hu.rd (i := (i : Int)); have hy := hv.rd (i := (i : Int))
    have hqy := mul_le2 hq hy
    obtain ⟨m1, hm1⟩ : ∃ m1, m1 = q * rd v (i : Int) := ⟨_, rfl⟩
    rw [← hm1] at hqy
    have hcy : c + m1 ≤ 18446744069414584320 := by omega
    have go : ∀ p d' br' : Int, p = c + m1 → d' = rd u (i : Int) - p % 4294967296 - br → 0 ≤ br' → br' ≤ 1 → d' % 4294967296 = d' + 4294967296 * br' →
        ∃ (b : Bool) (out' : List Int) (c2 br2 : Int), limb_take.l0 k (out.set i (d' % 4294967296)) v q (p / 4294967296) br' (u.length : Int) ((i + 1 : Nat) : Int) = some (b, out') ∧ out'.length = u.length ∧ Lm out' ∧ 0 ≤ c2 ∧ c2 ≤ 4294967295 ∧ 0 ≤ br2 ∧ br2 ≤ 1 ∧ (b = true ↔ br2 = 1) ∧ val out' = val u - q * val (v.take u.length) + pw u.length * (c2 + br2) ∧ (v.length < u.length → c2 = 0) := by
      intro p d' br' hp hd' h0 h1 hmod
      refine ih (i + 1) k _ _ _ (by omega) (by rw [List.length_set]; exact hol) (hm.set _ (by omega)) ?_ (by omega) (by omega) h0 h1 ?_ ?_ (by omega)
      · intro j hj; rw [rd_set_ne (by omega) (by omega)]; exact hsame j (by omega)
      · rw [val_take_set (by omega), val_take_succ u, val_take_succ v, pw_succ]
        exact take_step hval (by rw [hp, hm1]) hd' hmod
      · intro h
        have hz : rd v (i : Int) = 0 := rd_past (by omega)
        rw [hz] at hm1
        rcases Nat.lt_or_ge v.length i with h2 | h2
        · have := hcz h2; omega
        · omega
    simp only [limb_take.l0]
    rw [if_pos (by omega)]
    by_cases hb : (i : Int) < (v.length : Int)
    · rw [if_pos hb, if_pos (by omega), if_pos (by omega)]; simp only [Option.bind_some]
      rw [wsucc (by omega), show ((i : Int)).toNat = i by omega, hsame (i : Int) (by omega), wu (n := rd v (i : Int)) (by omega) (by omega), ← hm1, wu (n := m1) (by omega) (by omega), wu (n := c + m1) (by omega) (by omega), wi64 (n := rd u (i : Int)) (by omega) (by omega), wi64 (n := rd u (i : Int) - (c + m1) % 4294967296) (by omega) (by omega), wi64 (n := rd u (i : Int) - (c + m1) % 4294967296 - br) (by omega) (by omega)]
      by_cases hn : rd u (i : Int) - (c + m1) % 4294967296 - br < 0
      · rw [if_pos hn]; exact go _ _ 1 rfl rfl (by omega) (by omega) (by omega)
      · rw [if_neg hn]; exact go _ _ 0 rfl rfl (by omega) (by omega) (by omega)
    · have hz : rd v (i : Int) = 0 := rd_past (by omega)
      rw [hz] at hm1
      have hm0 : m1 = 0 := by omega
      rw [if_neg hb, if_pos (by omega), if_pos (by omega)]; simp only [Option.bind_some]
      rw [wsucc (by omega), show ((i : Int)).toNat = i by omega, hsame (i : Int) (by omega), wi64 (n := rd u (i : Int)) (by omega) (by omega), wi64 (n := rd u (i : Int) - c % 4294967296) (by omega) (by omega), wi64 (n := rd u (i : Int) - c % 4294967296 - br) (by omega) (by omega)]
      by_cases hn : rd u (i : Int) - c % 4294967296 - br < 0
      · rw [if_pos hn]; exact go c _ 1 (by omega) rfl (by omega) (by omega) (by omega)
      · rw [if_neg hn]; exact go c _ 0 (by omega) rfl (by omega) (by omega) (by omega)
/-- What is taken: u - q v, and pw more where that is below nought. -/
theorem take_ev {u v : List Int} (hu : Lm u) (hv : Lm v) {q : Int} (hq : 0 ≤ q ∧ q ≤ 4294967295) (hlu : u.length < 274877906944) (hlv : v.length < u.length) {k : Nat} (hk : u.length < k) :
    ∃ (b : Bool) (out' : List Int), limb_take.f k u v q = some (b, out') ∧ out'.length = u.length ∧ Lm out' ∧ val out' = val u - q * val v + pw u.length * (if b = true then 1 else 0) := by
  obtain ⟨b, out', c', br', h1, h2, h3, h4, h5, h6, h7, h8, h9, h10⟩ := take_loop hu hv hq hlu (by omega) u.length 0 k u 0 0 (by omega) rfl hu (fun _ _ => rfl) (by omega) (by omega) (by omega) (by omega) (by simp [val]) (fun _ => rfl) hk
  refine ⟨b, out', h1, h2, h3, ?_⟩
  rw [h9, h10 hlv, List.take_of_length_le (by omega)]
  cases b with
  | true => rw [h8.1 rfl]; simp
  | false =>
    have : br' = 0 := by
      rcases (show br' = 0 ∨ br' = 1 by omega) with h | h
      · exact h
      · exact absurd (h8.2 h) (by simp)
    rw [this]; simp

/- give -/
theorem give_step {V P c U W x y s : Int} (hV : V + P * c = U + W) (hs : s = c + x + y) : V + P * (s % 4294967296) + P * 4294967296 * (s / 4294967296) = U + P * x + (W + P * y) := by
  have := Int.emod_add_mul_ediv s 4294967296
  grind
theorem give_loop {u v : List Int} (hu : Lm u) (hv : Lm v) (hlu : u.length < 274877906944) (hlv : v.length < 274877906944) : ∀ (d i k : Nat) (out : List Int) (c : Int),
    i + d = u.length → out.length = u.length → Lm out → (∀ j : Int, (i : Int) ≤ j → rd out j = rd u j) → 0 ≤ c → c ≤ 1 → val (out.take i) + pw i * c = val (u.take i) + val (v.take i) → d < k →
    ∃ (out' : List Int) (c' : Int), limb_give.l0 k out v c (u.length : Int) (i : Int) = some out' ∧ out'.length = u.length ∧ Lm out' ∧ 0 ≤ c' ∧ c' ≤ 1 ∧ val out' + pw u.length * c' = val u + val (v.take u.length) := by
  intro d
  induction d with
  | zero =>
    intro i k out c hi hol hm hsame hc0 hc1 hval hk
    obtain ⟨k, rfl⟩ : ∃ m, k = m + 1 := ⟨k - 1, by omega⟩
    obtain rfl : i = u.length := by omega
    refine ⟨out, c, ?_, hol, hm, hc0, hc1, ?_⟩
    · simp only [limb_give.l0]; rw [if_neg (by omega)]
    · rw [List.take_of_length_le (by omega), List.take_length] at hval; exact hval
  | succ d ih =>
    intro i k out c hi hol hm hsame hc0 hc1 hval hk
    obtain ⟨k, rfl⟩ : ∃ m, k = m + 1 := ⟨k - 1, by omega⟩
    have hx := hu.rd (i := (i : Int)); have hy := hv.rd (i := (i : Int))
    have go : ∀ s : Int, s = c + rd u (i : Int) + rd v (i : Int) →
        ∃ (out' : List Int) (c' : Int), limb_give.l0 k (out.set i (s % 4294967296)) v (s / 4294967296) (u.length : Int) ((i + 1 : Nat) : Int) = some out' ∧ out'.length = u.length ∧ Lm out' ∧ 0 ≤ c' ∧ c' ≤ 1 ∧ val out' + pw u.length * c' = val u + val (v.take u.length) := by
      intro s hs
      refine ih (i + 1) k _ _ (by omega) (by rw [List.length_set]; exact hol) (hm.set _ (by omega)) ?_ (by omega) (by omega) ?_ (by omega)
      · intro j hj; rw [rd_set_ne (by omega) (by omega)]; exact hsame j (by omega)
      · rw [val_take_set (by omega), val_take_succ u, val_take_succ v, pw_succ]
        exact give_step hval hs
    simp only [limb_give.l0]
    rw [if_pos (by omega), if_pos (by omega), if_pos (by omega), wsucc (by omega), show ((i : Int)).toNat = i by omega, hsame (i : Int) (by omega), wu (n := rd u (i : Int)) (by omega) (by omega), wu (n := c + rd u (i : Int)) (by omega) (by omega)]
    by_cases hb : (i : Int) < (v.length : Int)
    · rw [if_pos hb, wu (n := rd v (i : Int)) (by omega) (by omega), wu (n := c + rd u (i : Int) + rd v (i : Int)) (by omega) (by omega)]
      exact go _ rfl
    · have hz : rd v (i : Int) = 0 := rd_past (by omega)
      rw [if_neg hb]
      exact go _ (by omega)
theorem give_ev {u v : List Int} (hu : Lm u) (hv : Lm v) (hlu : u.length < 274877906944) (hlv : v.length ≤ u.length) {k : Nat} (hk : u.length < k) :
    ∃ (out' : List Int) (c' : Int), limb_give.f k u v = some out' ∧ out'.length = u.length ∧ Lm out' ∧ 0 ≤ c' ∧ c' ≤ 1 ∧ val out' + pw u.length * c' = val u + val v := by
  obtain ⟨out', c', h1, h2, h3, h4, h5, h6⟩ := give_loop hu hv hlu (by omega) u.length 0 k u 0 (by omega) rfl hu (fun _ _ => rfl) (by omega) (by omega) (by simp [val]) hk
  rw [List.take_of_length_le hlv] at h6
  exact ⟨out', c', h1, h2, h3, h4, h5, h6⟩

/- guess -/
/-- A quotient that has been lowered only where it was too great, and is no more too great by two limbs of the divisor. -/
theorem guess_up {q t v1 v2 r u2 V2 U3 : Int} (h1 : q * v1 + r = t) (hV : V2 = v1 * 4294967296 + v2) (hU : U3 = t * 4294967296 + u2) (h2 : q * v2 ≤ r * 4294967296 + u2) : q * V2 ≤ U3 := by
  have : q * V2 = t * 4294967296 - r * 4294967296 + q * v2 := by rw [hV, ← h1]; grind
  omega
theorem guess_down {q t v1 v2 r u2 V2 U3 : Int} (h1 : q * v1 + r = t) (hV : V2 = v1 * 4294967296 + v2) (hU : U3 = t * 4294967296 + u2) (h2 : r * 4294967296 + u2 < q * v2) : U3 + 1 ≤ q * V2 := by
  have : q * V2 = t * 4294967296 - r * 4294967296 + q * v2 := by rw [hV, ← h1]; grind
  omega
/-- The limb's loop: Q the true quotient. -/
theorem guess_loop {u v : List Int} (hu : Lm u) (hv : Lm v) {n : Nat} (hn : v.length = n) (hn2 : 2 ≤ n) (hun : u.length = n + 1) (hln : n < 274877906944) {v1 v2 u2 t Q : Int}
    (hv1 : rd v ((n : Int) - 1) = v1) (hv2 : rd v ((n : Int) - 2) = v2) (hu2 : rd u ((n : Int) - 2) = u2) (hv1p : 2147483648 ≤ v1) (ht0 : 0 ≤ t) (ht1 : t ≤ v1 * 4294967296 + 4294967295)
    (hQ0 : 0 ≤ Q) (hQB : Q ≤ 4294967295) (hQ : ∀ q : Int, t * 4294967296 + u2 + 1 ≤ q * (v1 * 4294967296 + v2) → 0 ≤ q → Q < q) : ∀ (d k : Nat) (q r : Int),
    Q ≤ q → q ≤ 4294967298 → 0 ≤ r → r ≤ 4294967295 → q * v1 + r = t → 4294967296 - r ≤ d * 2147483648 → 2 * d + 2 < k →
    ∃ q', limb_guess.l0 k u v (n : Int) ((n + 1 : Nat) : Int) q r = some q' ∧ Q ≤ q' ∧ q' ≤ 4294967295 ∧ q' * (v1 * 4294967296 + v2) ≤ t * 4294967296 + u2 := by
  intro d
  induction d with
  | zero => intro k q r _ _ _ h4 _ h6 _; omega
  | succ d ih =>
    intro k q r hQq hqB hr0 hr1 hqt hd hk
    obtain ⟨k, rfl⟩ : ∃ m, k = m + 1 + 1 := ⟨k - 2, by omega⟩
    have hV1 := hv.rd (i := (n : Int) - 1); have hV2 := hv.rd (i := (n : Int) - 2); have hU2 := hu.rd (i := (n : Int) - 2)
    rw [hv1] at hV1; rw [hv2] at hV2; rw [hu2] at hU2
    -- what a lowering does
    have low : Q < q → limb_guess.j1 (k + 1) u v (n : Int) ((n + 1 : Nat) : Int) q r true = limb_guess.j1 (k + 1) u v (n : Int) ((n + 1 : Nat) : Int) q r true := fun _ => rfl
    have lower : Q ≤ q - 1 → (∃ q', limb_guess.j1 (k + 1) u v (n : Int) ((n + 1 : Nat) : Int) q r true = some q' ∧ Q ≤ q' ∧ q' ≤ 4294967295 ∧ q' * (v1 * 4294967296 + v2) ≤ t * 4294967296 + u2) := by
      intro hq1
      have hqt' : (q - 1) * v1 + (r + v1) = t := by rw [Int.sub_mul]; omega
      simp only [limb_guess.j1, if_true]
      rw [wi64 (n := (n : Int) - 1) (by omega) (by omega), if_pos (by omega), if_pos (by omega), hv1, wu (n := v1) (by omega) (by omega), wu (n := r + v1) (by omega) (by omega), wu (n := q - 1) (by omega) (by omega)]
      by_cases hb : (r + v1) / 4294967296 = 0
      · rw [if_pos hb]
        exact ih k (q - 1) (r + v1) hq1 (by omega) (by omega) (by omega) hqt' (by omega) (by omega)
      · rw [if_neg hb]
        have hqle : q - 1 ≤ 4294967295 := by
          rcases Int.lt_or_le 4294967295 (q - 1) with h | h
          · have := Int.mul_le_mul_of_nonneg_right (show 4294967296 ≤ q - 1 by omega) (show 0 ≤ v1 by omega)
            omega
          · exact h
        refine ⟨q - 1, rfl, hq1, hqle, ?_⟩
        refine guess_up hqt' rfl rfl ?_
        have := Int.mul_le_mul hqle hV2.2 hV2.1 (by omega : (0 : Int) ≤ 4294967295)
        omega
    simp only [limb_guess.l0]
    by_cases hq : q / 4294967296 = 0
    · have hqs : q ≤ 4294967295 := by omega
      have hm := mul_le2 (x := q) (y := v2) ⟨by omega, hqs⟩ hV2
      have hor := or_low hU2.1 hU2.2 hr0 hr1
      rw [if_pos hq, wi64 (n := (n : Int) - 2) (by omega) (by omega), if_pos (by omega), if_pos (by omega), wi64 (n := ((n + 1 : Nat) : Int) - 3) (by omega) (by omega), if_pos (by omega), if_pos (by omega), show ((n + 1 : Nat) : Int) - 3 = (n : Int) - 2 by omega, hv2, hu2, wu (n := v2) (by omega) (by omega), wu (n := u2) (by omega) (by omega), wu (n := r * 4294967296) (by omega) (by omega), hor, wu (n := q * v2) (by omega) (by omega)]
      by_cases hc : q * v2 > r * 4294967296 + u2
      · rw [show decide (q * v2 > r * 4294967296 + u2) = true from decide_eq_true hc]
        have h1 := guess_down hqt (V2 := v1 * 4294967296 + v2) rfl (U3 := t * 4294967296 + u2) rfl (by omega)
        have := hQ q h1 (by omega)
        exact lower (by omega)
      · rw [show decide (q * v2 > r * 4294967296 + u2) = false from decide_eq_false hc]
        refine ⟨q, ?_, hQq, hqs, guess_up hqt rfl rfl (by omega)⟩
        simp only [limb_guess.j1]
        rw [if_neg (by simp)]
    · rw [if_neg hq]
      exact lower (by omega)

end Go.Proofs.Wk
/- What guess of layer 1 comes to, and one row of the long quotient. Conditions: lists of limbs, the divisor's last one at least 2^31. -/
namespace Go.Proofs.Wk
open Go.RowKit
set_option linter.unusedSimpArgs false
set_option linter.unusedVariables false

/-- A true quotient, and what is at most one above it. -/
theorem quot_lt {U V P V' V2 U' U3 q : Int} (hU : U = U' + P * U3) (hV : V = V' + P * V2) (hV' : 0 ≤ V') (hU' : U' < P) (hP : 0 < P) (hVp : 0 < V) (h : U3 + 1 ≤ q * V2) (hq : 0 ≤ q) : U / V < q := by
  apply Int.ediv_lt_of_lt_mul hVp
  have h1 := Int.mul_le_mul_of_nonneg_left h (show 0 ≤ P by omega)
  have h2 := Int.mul_nonneg hq hV'
  have e : q * V = q * V' + P * (q * V2) := by rw [hV]; grind
  rw [Int.mul_add] at h1
  omega
theorem quot_up {U V P V' V2 U' U3 q : Int} (hU : U = U' + P * U3) (hV : V = V' + P * V2) (hV' : V' < P) (hV0 : 0 ≤ V') (hU' : 0 ≤ U') (hP : 0 < P) (hVp : 0 < V) (hV2 : 4294967296 ≤ V2) (h : q * V2 ≤ U3) (hq : 0 ≤ q) (hqB : q ≤ 4294967295) : q ≤ U / V + 1 := by
  have h1 := Int.mul_le_mul_of_nonneg_left h (show 0 ≤ P by omega)
  have h2 : q * V' ≤ 4294967295 * V' := Int.mul_le_mul_of_nonneg_right hqB hV0
  have h3 := Int.mul_le_mul_of_nonneg_left hV2 (show 0 ≤ P by omega)
  have e : q * V = q * V' + P * (q * V2) := by rw [hV]; grind
  have e2 := Int.mul_ediv_add_emod U V
  have e3 := Int.emod_lt_of_pos U hVp
  have h4 : q * V < U + V := by omega
  have h5 : q * V < (U / V + 2) * V := by
    have : (U / V + 2) * V = V * (U / V) + 2 * V := by grind
    omega
  have := Int.lt_of_mul_lt_mul_right h5 (by omega)
  omega
theorem guess_ev {u v : List Int} (hu : Lm u) (hv : Lm v) {n : Nat} (hn : v.length = n) (hn2 : 2 ≤ n) (hun : u.length = n + 1) (hln : n < 274877906944) (hv1p : 2147483648 ≤ rd v ((n : Int) - 1)) (hlt : val u < val v * 4294967296) {k : Nat} (hk : 6 < k) :
    ∃ g, limb_guess.f k u v = some g ∧ val u / val v ≤ g ∧ g ≤ val u / val v + 1 ∧ 0 ≤ g ∧ g ≤ 4294967295 := by
  obtain ⟨m, hm⟩ : ∃ m, n = m + 2 := ⟨n - 2, by omega⟩
  have A1 := hv.rd (i := (n : Int) - 1); have A2 := hv.rd (i := (n : Int) - 2)
  have B0 := hu.rd (i := (n : Int)); have B1 := hu.rd (i := (n : Int) - 1); have B2 := hu.rd (i := (n : Int) - 2)
  obtain ⟨v1, hv1⟩ : ∃ x, rd v ((n : Int) - 1) = x := ⟨_, rfl⟩
  obtain ⟨v2, hv2⟩ : ∃ x, rd v ((n : Int) - 2) = x := ⟨_, rfl⟩
  obtain ⟨u0, hu0⟩ : ∃ x, rd u (n : Int) = x := ⟨_, rfl⟩
  obtain ⟨u1, hu1⟩ : ∃ x, rd u ((n : Int) - 1) = x := ⟨_, rfl⟩
  obtain ⟨u2, hu2⟩ : ∃ x, rd u ((n : Int) - 2) = x := ⟨_, rfl⟩
  rw [hv1] at A1 hv1p; rw [hv2] at A2; rw [hu0] at B0; rw [hu1] at B1; rw [hu2] at B2
  have eV : val v = val (v.take m) + pw m * (v1 * 4294967296 + v2) := by
    have e1 := val_take_succ v m; have e2 := val_take_succ v (m + 1)
    rw [List.take_of_length_le (by omega)] at e2
    rw [show ((m : Nat) : Int) = (n : Int) - 2 by omega, hv2] at e1
    rw [show (((m + 1 : Nat)) : Int) = (n : Int) - 1 by omega, hv1, pw_succ] at e2
    rw [e2, e1]; grind
  have eU : val u = val (u.take m) + pw m * ((u0 * 4294967296 + u1) * 4294967296 + u2) := by
    have e1 := val_take_succ u m; have e2 := val_take_succ u (m + 1); have e3 := val_take_succ u (m + 2)
    rw [List.take_of_length_le (by omega)] at e3
    rw [show ((m : Nat) : Int) = (n : Int) - 2 by omega, hu2] at e1
    rw [show (((m + 1 : Nat)) : Int) = (n : Int) - 1 by omega, hu1, pw_succ] at e2
    rw [show (((m + 2 : Nat)) : Int) = (n : Int) by omega, hu0, pw_succ, pw_succ] at e3
    rw [e3, e2, e1]; grind
  have hP := pw_pos m
  have V0 := val_nonneg (hv.take m); have U0 := val_nonneg (hu.take m)
  have V1 := val_lt_pw (hv.take m); have U1 := val_lt_pw (hu.take m)
  rw [List.length_take, Nat.min_eq_left (by omega)] at V1 U1
  obtain ⟨t, ht⟩ : ∃ t, t = u0 * 4294967296 + u1 := ⟨_, rfl⟩
  rw [← ht] at eU
  have hV2 : 4294967296 ≤ v1 * 4294967296 + v2 := by omega
  have hVp : 0 < val v := by
    have := Int.mul_le_mul_of_nonneg_left hV2 (show 0 ≤ pw m by omega)
    omega
  have ht1 : t ≤ v1 * 4294967296 + 4294967295 := by
    rcases Int.lt_or_le (v1 * 4294967296 + 4294967295) t with h | h
    · exfalso
      have h1 : v1 * 4294967296 + v2 + 1 ≤ t := by omega
      have h2 := Int.mul_le_mul_of_nonneg_left (show (v1 * 4294967296 + v2 + 1) * 4294967296 ≤ t * 4294967296 + u2 by omega) (show 0 ≤ pw m by omega)
      have e : pw m * ((v1 * 4294967296 + v2 + 1) * 4294967296) = (pw m * (v1 * 4294967296 + v2)) * 4294967296 + pw m * 4294967296 := by grind
      omega
    · exact h
  obtain ⟨Q, hQe⟩ : ∃ Q, Q = val u / val v := ⟨_, rfl⟩
  have hQ0 : 0 ≤ Q := by rw [hQe]; exact Int.ediv_nonneg (by have := val_nonneg hu; omega) (by omega)
  have hQB : Q ≤ 4294967295 := by
    have : Q < 4294967296 := by rw [hQe]; apply Int.ediv_lt_of_lt_mul hVp; rw [Int.mul_comm]; exact hlt
    omega
  have hQ : ∀ q : Int, t * 4294967296 + u2 + 1 ≤ q * (v1 * 4294967296 + v2) → 0 ≤ q → Q < q := by
    intro q h hq
    rw [hQe]; exact quot_lt eU eV V0 U1 hP hVp h hq
  have d0 := Int.mul_ediv_add_emod t v1
  have d1 := Int.emod_nonneg t (show v1 ≠ 0 by omega)
  have d2 := Int.emod_lt_of_pos t (show 0 < v1 by omega)
  have d3 := Int.ediv_nonneg (show 0 ≤ t by omega) (show 0 ≤ v1 by omega)
  have g0 : Q ≤ t / v1 := by
    have h1 : t + 1 ≤ (t / v1 + 1) * v1 := by rw [Int.add_mul, Int.mul_comm (t / v1) v1]; omega
    have h2 := Int.mul_nonneg (show 0 ≤ t / v1 + 1 by omega) A2.1
    have h3 : (t / v1 + 1) * (v1 * 4294967296 + v2) = (t / v1 + 1) * v1 * 4294967296 + (t / v1 + 1) * v2 := by grind
    have := hQ (t / v1 + 1) (by omega) (by omega)
    omega
  have g1 : t / v1 ≤ 4294967298 := by
    have : t / v1 < 4294967298 := by
      apply Int.ediv_lt_of_lt_mul (by omega); omega
    omega
  obtain ⟨q', w1, w2, w3, w4⟩ := guess_loop hu hv hn hn2 hun hln hv1 hv2 hu2 hv1p (by omega) ht1 hQ0 hQB hQ 2 k (t / v1) (t % v1) g0 g1 d1 (by omega) (by rw [Int.mul_comm]; exact d0) (by omega) (by omega)
  refine ⟨q', ?_, by rw [← hQe]; exact w2, quot_up eU eV V1 V0 U0 hP hVp hV2 w4 (by omega) w3, by omega, w3⟩
  have hor := or_low B1.1 B1.2 B0.1 B0.2
  unfold limb_guess.f
  rw [hun, hn, wi64 (n := ((n + 1 : Nat) : Int) - 1) (by omega) (by omega), wi64 (n := ((n + 1 : Nat) : Int) - 2) (by omega) (by omega), wi64 (n := (n : Int) - 1) (by omega) (by omega), if_pos (by omega), if_pos (by omega), if_pos (by omega), if_pos (by omega), if_pos (by omega), if_pos (by omega), show ((n + 1 : Nat) : Int) - 1 = (n : Int) by omega, show ((n + 1 : Nat) : Int) - 2 = (n : Int) - 1 by omega, hv1, hu0, hu1, wu (n := v1) (by omega) (by omega), wu (n := u0) (by omega) (by omega), wu (n := u1) (by omega) (by omega), wu (n := u0 * 4294967296) (by omega) (by omega), hor, if_neg (by omega), ← ht, Int.tdiv_eq_ediv_of_nonneg (by omega), Int.tmod_eq_emod_of_nonneg (by omega), wu (n := t / v1) d3 (by omega)]
  exact w1

/-- One row: the window's quotient is taken off it. -/
theorem row_ev {w v : List Int} (hw : Lm w) (hv : Lm v) {n : Nat} (hn : v.length = n) (hn2 : 2 ≤ n) (hwn : w.length = n + 1) (hln : n < 274877906943) (hv1p : 2147483648 ≤ rd v ((n : Int) - 1)) (hlt : val w < val v * 4294967296) {k : Nat} (hk : n + 6 < k) :
    ∃ g b w1, limb_guess.f k w v = some g ∧ limb_take.f k w v g = some (b, w1) ∧ w1.length = n + 1 ∧ Lm w1 ∧ 0 ≤ g ∧ g ≤ 4294967295 ∧ val v * (val w / val v) = val v * (val w / val v) ∧
      ((b = false ∧ g = val w / val v ∧ val w1 = val w - val v * (val w / val v)) ∨ (b = true ∧ g - 1 = val w / val v ∧ ∃ w2, limb_give.f k w1 v = some w2 ∧ w2.length = n + 1 ∧ Lm w2 ∧ val w2 = val w - val v * (val w / val v))) := by
  obtain ⟨g, g1, g2, g3, g4, g5⟩ := guess_ev hw hv hn hn2 hwn (by omega) hv1p hlt (k := k) (by omega)
  obtain ⟨b, w1, t1, t2, t3, t4⟩ := take_ev hw hv ⟨g4, g5⟩ (by omega) (by omega) (k := k) (by omega)
  have V0 := val_nonneg hv; have W0 := val_nonneg hw
  have W1 := val_nonneg t3; have W2 := val_lt_pw t3; have VP := val_lt_pw hv
  rw [t2] at W2
  have hVp : 0 < val v := by omega
  have e := Int.mul_ediv_add_emod (val w) (val v)
  have e1 := Int.emod_nonneg (val w) (show val v ≠ 0 by omega)
  have e2 := Int.emod_lt_of_pos (val w) hVp
  have PP : val v < pw w.length := by have := pw_le (show v.length ≤ w.length by omega); omega
  obtain ⟨Q, hQ⟩ : ∃ Q, Q = val w / val v := ⟨_, rfl⟩
  rw [← hQ] at g2 g3 e ⊢
  refine ⟨g, b, w1, g1, t1, by omega, t3, g4, g5, rfl, ?_⟩
  cases b with
  | false =>
    left
    have hg : g = Q := by
      rcases (show g = Q ∨ g = Q + 1 by omega) with h | h
      · exact h
      · exfalso
        rw [h, Int.add_mul, Int.mul_comm Q] at t4
        simp at t4; omega
    refine ⟨rfl, hg, ?_⟩
    rw [hg, Int.mul_comm Q] at t4; simpa using t4
  | true =>
    right
    have hg : g = Q + 1 := by
      rcases (show g = Q ∨ g = Q + 1 by omega) with h | h
      · exfalso
        rw [h, Int.mul_comm Q] at t4
        simp at t4; omega
      · exact h
    rw [hg, Int.add_mul, Int.mul_comm Q] at t4
    simp at t4
    obtain ⟨w2, c', s1, s2, s3, s4, s5, s6⟩ := give_ev t3 hv (by omega) (by omega) (k := k) (by omega)
    have X0 := val_nonneg s3; have X1 := val_lt_pw s3
    rw [s2, t2] at X1; rw [t2] at s6
    refine ⟨rfl, by omega, w2, s1, by omega, s3, ?_⟩
    rcases (show c' = 0 ∨ c' = 1 by omega) with h | h <;> subst h
    · exfalso; simp at s6; omega
    · simp at s6; omega

end Go.Proofs.Wk
/- What long, divide and DivMod of layer 1 come to: quotient and rest. Conditions: lists of limbs, of fewer than 2^37 elements. -/
namespace Go.Proofs.Wk
open Go.RowKit
set_option linter.unusedSimpArgs false
set_option linter.unusedVariables false

theorem val_split (xs : List Int) (j : Nat) (h : j ≤ xs.length) : val xs = val (xs.take j) + pw j * val (xs.drop j) := by
  have := val_append_pw (xs.take j) (xs.drop j)
  rw [List.take_append_drop, List.length_take, Nat.min_eq_left h] at this; exact this
theorem val_drop_succ {xs : List Int} {j : Nat} (h : j < xs.length) : val (xs.drop j) = rd xs (j : Int) + 4294967296 * val (xs.drop (j + 1)) := by
  have d1 := drop_rd (xs := xs) (i := (j : Int)) (by omega) (by omega)
  rw [show ((j : Int)).toNat = j by omega, show ((j : Int) + 1).toNat = j + 1 by omega] at d1
  rw [d1]; rfl
/-- A window and what stands above it. -/
theorem val_window {xs : List Int} {j n : Nat} (h : j + n ≤ xs.length) : val (xs.drop j) = val ((xs.drop j).take n) + pw n * val (xs.drop (j + n)) := by
  rw [val_split (xs.drop j) n (by rw [List.length_drop]; omega), List.drop_drop]
theorem val_put {xs ys : List Int} {j n : Nat} (h : j + n ≤ xs.length) (hy : ys.length = n) : val (xs.take j ++ ys ++ xs.drop (j + n)) = val (xs.take j) + pw j * (val ys + pw n * val (xs.drop (j + n))) := by
  rw [List.append_assoc, val_append_pw, val_append_pw, List.length_take, Nat.min_eq_left (by omega), hy]
theorem put_len {xs ys : List Int} {j n : Nat} (h : j + n ≤ xs.length) (hy : ys.length = n) : (xs.take j ++ ys ++ xs.drop (j + n)).length = xs.length := by
  simp; omega
theorem put_drop {xs ys : List Int} {j n : Nat} (h : j + n ≤ xs.length) (hy : ys.length = n) : (xs.take j ++ ys ++ xs.drop (j + n)).drop j = ys ++ xs.drop (j + n) := by
  rw [List.append_assoc]
  have e := List.drop_left (l₁ := xs.take j) (l₂ := ys ++ xs.drop (j + n))
  rw [List.length_take, Nat.min_eq_left (by omega)] at e; exact e
theorem put_take {xs ys : List Int} {j n : Nat} (h : j + n ≤ xs.length) (hy : ys.length = n) : (xs.take j ++ ys ++ xs.drop (j + n)).take j = xs.take j := by
  rw [List.append_assoc]
  have e := List.take_left (l₁ := xs.take j) (l₂ := ys ++ xs.drop (j + n))
  rw [List.length_take, Nat.min_eq_left (by omega)] at e; exact e
theorem put_high {xs ys : List Int} {j n : Nat} (h : j + n ≤ xs.length) (hy : ys.length = n) : (xs.take j ++ ys ++ xs.drop (j + n)).drop (j + n) = xs.drop (j + n) := by
  have e := List.drop_left (l₁ := xs.take j ++ ys) (l₂ := xs.drop (j + n))
  rw [List.length_append, List.length_take, Nat.min_eq_left (by omega), hy] at e; exact e
theorem val_set_zero {xs : List Int} (hx : Lm xs) {j : Nat} (h : j < xs.length) (h0 : rd xs (j : Int) = 0) (x : Int) : val (xs.set j x) = val xs + pw j * x := by
  rw [val_split (xs.set j x) (j + 1) (by rw [List.length_set]; omega), val_take_set h, List.drop_set_of_lt (by omega), val_split xs (j + 1) (by omega), val_take_succ, h0]
  grind

/-- The rows, from the top one down. -/
theorem rows_ev {v : List Int} (hv : Lm v) {n : Nat} (hn : v.length = n) (hn2 : 2 ≤ n) (hln : n < 137438953472) (hv1p : 2147483648 ≤ rd v ((n : Int) - 1)) {s : Nat} (hs : s ≤ 31) {A : Int} (hA : 0 ≤ A) : ∀ (i k : Nat) (u q : List Int),
    Lm u → Lm q → u.length = n + q.length → q.length < 137438953472 → i ≤ q.length → (∀ j : Nat, j < i → rd q (j : Int) = 0) → A = val u + val v * val q → val (u.drop i) < val v → n + q.length + u.length + i + 8 < k →
    limb_long.l1 k (s : Int) v u q ((i : Int) - 1) = some (natL (A / val v), natL (A % val v / p2 s)) := by
  intro i
  induction i with
  | zero =>
    intro k u q hu hq hul hql hi hz hAv hlt hk
    obtain ⟨k, rfl⟩ : ∃ m, k = m + 1 := ⟨k - 1, by omega⟩
    rw [List.drop_zero] at hlt
    have U0 := val_nonneg hu; have Q0 := val_nonneg hq
    have VP := val_lt_pw hv
    rw [hn] at VP
    simp only [limb_long.l1]
    rw [if_neg (by omega), trim_ev (by omega) (by omega), trim_natL hq]; simp only [Option.bind_some]
    rw [if_pos (by omega), if_pos (by omega), hn, show ((n : Int)).toNat = n by omega, unshift_ev (hu.take n) hs (by rw [List.length_take]; omega) (by rw [List.length_take]; omega)]
    simp only [Option.bind_some]
    have e := val_split u n (by omega)
    have T0 := val_nonneg (hu.take n)
    have D0 := val_nonneg (hu.drop n)
    have e2 : val (u.drop n) = 0 := by
      rcases Int.lt_or_eq_of_le D0 with h | h
      · exfalso
        have := Int.mul_le_mul_of_nonneg_left (show 1 ≤ val (u.drop n) by omega) (show 0 ≤ pw n by have := pw_pos n; omega)
        omega
      · exact h.symm
    rw [e2] at e
    have e3 : val (u.take n) = val u := by omega
    have hd : A / val v = val q := by
      rw [hAv, Int.add_mul_ediv_left _ _ (by omega), Int.ediv_eq_zero_of_lt U0 hlt]; omega
    have hr : A % val v = val u := by
      rw [hAv, Int.add_mul_emod_self_left, Int.emod_eq_of_lt U0 hlt]
    rw [hd, hr, e3]
  | succ i ih =>
    intro k u q hu hq hul hql hi hz hAv hlt hk
    obtain ⟨k, rfl⟩ : ∃ m, k = m + 1 := ⟨k - 1, by omega⟩
    have hwl : ((u.drop i).take (n + 1)).length = n + 1 := by rw [List.length_take, List.length_drop]; omega
    have hw : Lm ((u.drop i).take (n + 1)) := (hu.drop i).take _
    have VP := val_lt_pw hv
    rw [hn] at VP
    have hV0 : 0 < val v := by have := val_nonneg (hu.drop (i + 1)); omega
    have hx := hu.rd (i := (i : Int))
    have d1 := val_drop_succ (xs := u) (j := i) (by omega)
    have d2 := val_window (xs := u) (j := i) (n := n + 1) (by omega)
    have H0 := val_nonneg (hu.drop (i + (n + 1)))
    have W0 := val_nonneg hw
    have hdl : val (u.drop i) < val v * 4294967296 := by omega
    have high : val (u.drop (i + (n + 1))) = 0 := by
      rcases Int.lt_or_eq_of_le H0 with h | h
      · exfalso
        have h1 := Int.mul_le_mul_of_nonneg_left (show 1 ≤ val (u.drop (i + (n + 1))) by omega) (show 0 ≤ pw (n + 1) by have := pw_pos (n + 1); omega)
        have h2 := pw_succ n
        omega
      · exact h.symm
    rw [high] at d2
    have dw : val ((u.drop i).take (n + 1)) = val (u.drop i) := by omega
    obtain ⟨g, b, w1, g1, t1, l1, m1, gq0, gq1, _, hcase⟩ := row_ev hw hv hn hn2 hwl (by omega) hv1p (by omega) (k := k) (by omega)
    rw [dw] at hcase
    obtain ⟨D, hD⟩ : ∃ D, D = val (u.drop i) := ⟨_, rfl⟩
    rw [← hD] at hcase hdl
    have em := Int.mul_ediv_add_emod D (val v)
    have em1 := Int.emod_lt_of_pos D hV0
    obtain ⟨Q, hQ⟩ : ∃ Q, Q = D / val v := ⟨_, rfl⟩
    rw [← hQ] at hcase em
    have hsu := val_split u i (by omega)
    rw [← hD] at hsu
    -- the last step, whichever list it was
    have go : ∀ w2 : List Int, w2.length = n + 1 → Lm w2 → val w2 = D - val v * Q → 0 ≤ Q → Q ≤ 4294967295 →
        limb_long.l1 k (s : Int) v (u.take i ++ w2 ++ u.drop (i + (n + 1))) (q.set i Q) ((i : Int) - 1) = some (natL (A / val v), natL (A % val v / p2 s)) := by
      intro w2 hl2 hm2 hv2 hq0 hq1
      have pl := put_len (xs := u) (ys := w2) (j := i) (n := n + 1) (by omega) hl2
      refine ih k _ _ ((hu.take i).append hm2 |>.append (hu.drop _)) (hq.set _ ⟨hq0, hq1⟩) (by rw [pl, List.length_set]; exact hul) (by rw [List.length_set]; exact hql) (by rw [List.length_set]; omega) ?_ ?_ ?_ (by rw [pl, List.length_set]; omega)
      · intro j hj
        rw [rd_set_ne (by omega) (by omega)]; exact hz j (by omega)
      · rw [val_put (by omega) hl2, high, hv2, val_set_zero hq (by omega) (hz i (by omega)), hAv, hsu]
        grind
      · rw [put_drop (by omega) hl2, val_append_pw, high, hv2]; omega
    simp only [limb_long.l1]
    rw [show (((i + 1 : Nat) : Int) - 1) = (i : Int) by omega, if_pos (by omega)]
    unfold limb_guess.w limb_take.w
    rw [if_pos (by omega), show ((i : Int)).toNat = i by omega, hn, g1]; simp only [Option.bind_some]
    rw [if_pos (by omega), t1]; simp only [Option.bind_some]
    rcases hcase with ⟨hb, hg, hval⟩ | ⟨hb, hg, w2, s1, s2, s3, s4⟩
    · rw [hb, if_neg (by simp), if_pos (by omega), if_pos (by omega), wi64 (n := (i : Int) - 1) (by omega) (by omega), Int.emod_eq_of_lt gq0 (by omega), hg]
      exact go w1 l1 m1 hval (by omega) (by omega)
    · have hQ0 : 0 ≤ Q := by rw [hQ]; exact Int.ediv_nonneg (by omega) (by omega)
      rw [hb, if_pos rfl]
      unfold limb_give.w
      have pl := put_len (xs := u) (ys := w1) (j := i) (n := n + 1) (by omega) l1
      have pd : ((u.take i ++ w1 ++ u.drop (i + (n + 1))).drop i).take (n + 1) = w1 := by
        rw [put_drop (by omega) l1, ← l1, List.take_left]
      rw [if_pos (by omega), show ((i : Int)).toNat = i by omega, hn, pd, s1, put_take (by omega) l1, put_high (by omega) l1]; simp only [Option.bind_some]
      rw [if_pos (by omega), if_pos (by omega), wi64 (n := (i : Int) - 1) (by omega) (by omega), wu (n := g - 1) (by omega) (by omega), Int.emod_eq_of_lt (a := g - 1) (by omega) (by omega), hg]
      exact go w2 s2 s3 s4 hQ0 (by omega)

theorem shl_u32 {x : Int} {s : Nat} (hx : 0 ≤ x * p2 s ∧ x * p2 s ≤ 4294967295) (hs : s ≤ 31) : shl .u32 x (s : Int) = x * p2 s := by
  unfold shl
  rw [show min ((s : Int)).toNat IntKind.u32.bits = s by simp [IntKind.bits]; omega, wu32]
  exact Int.emod_eq_of_lt hx.1 (by unfold p2 at hx; omega)
theorem val_last {xs : List Int} {n : Nat} (h : xs.length = n) (hn : 1 ≤ n) : val xs = val (xs.take (n - 1)) + pw (n - 1) * rd xs ((n : Int) - 1) := by
  have e := val_take_succ xs (n - 1)
  rw [show n - 1 + 1 = n by omega, List.take_of_length_le (by omega), show (((n - 1 : Nat)) : Int) = (n : Int) - 1 by omega] at e
  exact e
theorem top_bound {xs : List Int} (hx : Lm xs) {n : Nat} (hn : xs.length = n + 1) {p P : Int} (h : val xs < pw n * p) (hp : 0 ≤ p) : rd xs (n : Int) < p := by
  have e := val_take_succ xs n
  rw [List.take_of_length_le (by omega)] at e
  have := val_nonneg (hx.take n)
  rcases Int.lt_or_le (rd xs (n : Int)) p with h1 | h1
  · exact h1
  · exfalso
    have := Int.mul_le_mul_of_nonneg_left h1 (show 0 ≤ pw n by have := pw_pos n; omega)
    omega
theorem rg1 (P t p : Int) : P * (t + 1) * p = P * (t * p + p) := by rw [Int.mul_assoc, Int.add_mul, Int.one_mul]
theorem rg2 (x P t p : Int) : (x + P * t) * p = x * p + P * (t * p) := by rw [Int.add_mul, Int.mul_assoc]
/-- A multiple of p2 s below 2^32 stays so with p2 s more. -/
theorem room {top : Int} {s : Nat} (hs : s ≤ 31) (hts : top * p2 s ≤ 4294967295) : top * p2 s + p2 s ≤ 4294967296 := by
  have hp0 := p2_pos s
  have hpp := p2_32 (show s ≤ 32 by omega)
  have h4 : top < p2 (32 - s) := by
    apply Int.lt_of_mul_lt_mul_right (a := p2 s) _ (by omega)
    rw [Int.mul_comm (p2 (32 - s)), hpp]; omega
  have h5 := Int.mul_le_mul_of_nonneg_right (show top + 1 ≤ p2 (32 - s) by omega) (show 0 ≤ p2 s by omega)
  rw [Int.add_mul, Int.mul_comm (p2 (32 - s)), hpp] at h5; omega
theorem moved_hi {b P top p x V : Int} (eb : b = x + P * top) (hx : x < P) (hP : 0 < P) (hp : 0 < p) (h3 : top * p + p ≤ 4294967296) : b * p < P * 4294967296 := by
  have h1 := Int.mul_lt_mul_of_pos_right (show b < P * (top + 1) by rw [Int.mul_add]; omega) hp
  have h6 := Int.mul_le_mul_of_nonneg_left h3 (show 0 ≤ P by omega)
  rw [rg1] at h1; omega
theorem moved_lo {b P top p x : Int} (eb : b = x + P * top) (hx : 0 ≤ x) (hP : 0 < P) (hp : 0 < p) (htl : 2147483648 ≤ top * p) : P * 2147483648 ≤ b * p := by
  have h1 := Int.mul_le_mul_of_nonneg_left htl (show 0 ≤ P by omega)
  have h2 := Int.mul_nonneg hx (show 0 ≤ p by omega)
  rw [eb, rg2]; omega
theorem top_lo {x P t V : Int} (e : V = x + P * t) (hx : x < P) (hP : 0 < P) (h : P * 2147483648 ≤ V) : 2147483648 ≤ t := by
  rcases Int.lt_or_le t 2147483648 with h1 | h1
  · exfalso
    have := Int.mul_le_mul_of_nonneg_left (show t + 1 ≤ 2147483648 by omega) (show 0 ≤ P by omega)
    rw [Int.mul_add] at this
    omega
  · exact h1
theorem top_hi {x P t V : Int} (e : V = x + P * t) (hx : x < P) (hP : 0 < P) (h : t < 2147483648) : V < P * 2147483648 := by
  have := Int.mul_le_mul_of_nonneg_left (show t + 1 ≤ 2147483648 by omega) (show 0 ≤ P by omega)
  rw [Int.mul_add] at this
  omega
theorem high_zero {xs : List Int} (hx : Lm xs) {n : Nat} (hn : n ≤ xs.length) (h : val xs < pw n) : val (xs.take n) = val xs := by
  have sb := val_split xs n hn
  have h0 := val_nonneg (hx.take n); have h1 := val_nonneg (hx.drop n)
  rcases Int.lt_or_eq_of_le h1 with h2 | h2
  · exfalso
    have := Int.mul_le_mul_of_nonneg_left (show 1 ≤ val (xs.drop n) by omega) (show 0 ≤ pw n by have := pw_pos n; omega)
    omega
  · rw [← h2] at sb; omega
theorem take_last_lt {xs : List Int} (hx : Lm xs) {n : Nat} (hn : xs.length = n) (hn1 : 1 ≤ n) : val (xs.take (n - 1)) < pw (n - 1) := by
  have b1 := val_lt_pw (hx.take (n - 1))
  rw [List.length_take, Nat.min_eq_left (by omega)] at b1; exact b1
/-- The divisor, moved. -/
theorem divisor_ev {b : List Int} (hb : Lm b) {n : Nat} (hn : b.length = n) (hn2 : 2 ≤ n) {top : Int} (ht : rd b ((n : Int) - 1) = top) {s : Nat} (hs : s ≤ 31) (hts : top * p2 s ≤ 4294967295) (htl : 2147483648 ≤ top * p2 s)
    {bs : List Int} (e2 : bs.length = n + 1) (e3 : Lm bs) (e4 : val bs = val b * p2 s) : val (bs.take n) = val b * p2 s ∧ pw (n - 1) * 2147483648 ≤ val (bs.take n) ∧ 2147483648 ≤ rd (bs.take n) ((n : Int) - 1) := by
  have eb := val_last hn (by omega)
  rw [ht] at eb
  have hP := pw_pos (n - 1)
  have pn : pw n = pw (n - 1) * 4294967296 := by rw [← pw_succ, show n - 1 + 1 = n by omega]
  have h1 := moved_hi (V := 0) eb (take_last_lt hb hn (by omega)) hP (p2_pos s) (room hs hts)
  have h2 := moved_lo eb (val_nonneg (hb.take _)) hP (p2_pos s) htl
  have h3 := high_zero e3 (n := n) (by omega) (by rw [e4, pn]; exact h1)
  have hvn : (bs.take n).length = n := by rw [List.length_take]; omega
  refine ⟨by rw [h3, e4], by rw [h3, e4]; exact h2, ?_⟩
  exact top_lo (val_last hvn (by omega)) (take_last_lt (e3.take n) hvn (by omega)) hP (by rw [h3, e4]; exact h2)
/-- The dividend, moved. -/
theorem dividend_ev {a : List Int} (ha : Lm a) {n m : Nat} (hn2 : 2 ≤ n) (hm : a.length + 1 = n + m) {s : Nat} (hs : s ≤ 31) {us : List Int} (f2 : us.length = a.length + 1) (f3 : Lm us) (f4 : val us = val a * p2 s) : val (us.drop m) < pw (n - 1) * 2147483648 := by
  have hp0 := p2_pos s; have hp1 := p2_31 hs
  have ust : rd us (a.length : Int) < p2 s := by
    refine top_bound f3 f2 (P := 0) ?_ (by omega)
    rw [f4]
    exact Int.mul_lt_mul_of_pos_right (val_lt_pw ha) hp0
  have hl : (us.drop m).length = n := by rw [List.length_drop]; omega
  have er : rd (us.drop m) ((n : Int) - 1) = rd us (a.length : Int) := by
    rw [rd_getElem (by omega), rd_getElem (by omega), List.getElem_drop]
    congr 1; omega
  refine top_hi (val_last hl (by omega)) (take_last_lt (f3.drop m) hl (by omega)) (pw_pos (n - 1)) ?_
  rw [er]; omega
theorem rest_moved (A B : Int) {p : Int} (hp : 0 < p) : A * p % (B * p) = (A % B) * p := by
  rw [Int.mul_comm A, Int.mul_comm B, Int.mul_emod_mul_of_pos _ _ hp, Int.mul_comm]
theorem long_rows {a : List Int} (ha : Lm a) {b : List Int} (hb : Lm b) {n m : Nat} (hn : b.length = n) (hn2 : 2 ≤ n) (hm : a.length + 1 = n + m) (hla : a.length < 68719476736) {top : Int} (ht : rd b ((n : Int) - 1) = top) {s : Nat} (hs : s ≤ 31)
    (hts : top * p2 s ≤ 4294967295) (htl : 2147483648 ≤ top * p2 s) {us bs : List Int} (e2 : bs.length = n + 1) (e3 : Lm bs) (e4 : val bs = val b * p2 s) (f2 : us.length = a.length + 1) (f3 : Lm us) (f4 : val us = val a * p2 s) {k : Nat} (hk : 5 * a.length + 20 < k) :
    limb_long.l1 k (s : Int) (bs.take n) us (List.replicate m 0) ((m : Int) - 1) = some (natL (val a / val b), natL (val a % val b)) := by
  have hp0 := p2_pos s
  obtain ⟨d1, d2, d3⟩ := divisor_ev hb hn hn2 ht hs hts htl e2 e3 e4
  have d4 := dividend_ev ha hn2 hm hs f2 f3 f4
  have hvn : (bs.take n).length = n := by rw [List.length_take]; omega
  have lr : (List.replicate m (0 : Int)).length = m := List.length_replicate
  have A0 := val_nonneg ha
  have fin := rows_ev (e3.take n) hvn hn2 (by omega) d3 hs (A := val a * p2 s) (Int.mul_nonneg A0 (by omega)) m k us (List.replicate m 0) f3 (Lm.zeros m) (by omega) (by omega) (by omega)
    (by intro j hj; rw [rd_getElem (by omega)]; simp) (by rw [val_zeros, f4]; simp) (by omega) (by omega)
  rw [d1, Int.mul_ediv_mul_of_pos_left _ _ hp0, rest_moved _ _ hp0, Int.mul_ediv_cancel _ (by omega)] at fin
  exact fin
theorem long_head {a b us bs : List Int} {n m k s : Nat} {top : Int} {r : Option (List Int × List Int)} (hn : b.length = n) (hn2 : 2 ≤ n) (hab : n ≤ a.length) (hla : a.length < 68719476736) (ht : rd b ((n : Int) - 1) = top) (hnz : ¬ (shl .u32 top (s : Int) / 2147483648 = 0))
    (e1 : limb_shift.f k b (s : Int) = some bs) (e2 : bs.length = b.length + 1) (f1 : limb_shift.f k a (s : Int) = some us) (f2 : us.length = a.length + 1) (hm : a.length + 1 = n + m) (fin : limb_long.l1 k (s : Int) (bs.take n) us (List.replicate m 0) ((m : Int) - 1) = r) : limb_long.l0 (k + 1) a b (s : Int) = r := by
  have hvn : (bs.take n).length = n := by rw [List.length_take]; omega
  have lr : (List.replicate m (0 : Int)).length = m := List.length_replicate
  have w1 : wrap64 ((n : Int) - 1) = (n : Int) - 1 := wi64 (by omega) (by omega)
  have w2 : wrap64 ((us.length : Int) - (n : Int)) = (m : Int) := by rw [show ((us.length : Int) - (n : Int)) = (m : Int) by omega]; exact wi64 (by omega) (by omega)
  have w3 : wrap64 ((m : Int) - 1) = (m : Int) - 1 := wi64 (by omega) (by omega)
  have c1 : 0 ≤ (n : Int) - 1 := by omega
  have c2 : (n : Int) - 1 < (n : Int) := by omega
  have c3 : 0 ≤ (s : Int) := by omega
  have c4 : 0 ≤ (n : Int) := by omega
  have c5 : (n : Int) ≤ (bs.length : Int) := by omega
  have c6 : 0 ≤ (m : Int) := by omega
  have c7 : m ≤ 70368744177664 := by omega
  unfold limb_long.l0
  rw [hn, w1, if_pos c1, if_pos c2, if_pos c3, ht, if_neg hnz, e1, Option.bind_some, if_pos c4, if_pos c5, Int.toNat_natCast, Option.bind_some, f1, Option.bind_some, hvn, w2, if_pos c6, Int.toNat_natCast, if_pos c7, Option.bind_some, lr, w3]
  exact fin
theorem long_end {a b : List Int} (ha : Lm a) (hb : Lm b) {n : Nat} (hn : b.length = n) (hn2 : 2 ≤ n) (hab : n ≤ a.length) (hla : a.length < 68719476736) {top : Int} (ht : rd b ((n : Int) - 1) = top) (s k : Nat) (hs : s ≤ 31)
    (hts : top * p2 s ≤ 4294967295) (htl : 2147483648 ≤ top * p2 s) (hk : 5 * a.length + 20 < k) : limb_long.l0 (k + 1) a b (s : Int) = some (natL (val a / val b), natL (val a % val b)) := by
  obtain ⟨bs, e1, e2, e3, e4⟩ := shift_ev hb hs (by omega) (k := k) (by omega)
  obtain ⟨us, f1, f2, f3, f4⟩ := shift_ev ha hs (by omega) (k := k) (by omega)
  obtain ⟨m, hm⟩ : ∃ m, a.length + 1 = n + m := ⟨a.length + 1 - n, by omega⟩
  have fin := long_rows ha hb hn hn2 hm hla ht hs hts htl (by omega) e3 e4 f2 f3 f4 hk
  have hvn : (bs.take n).length = n := by rw [List.length_take]; omega
  have hnz : ¬ (shl .u32 top (s : Int) / 2147483648 = 0) := by
    rw [shl_u32 ⟨by omega, hts⟩ hs]; omega
  have m0 : (m : Int).toNat ≤ 70368744177664 := by omega
  have lr : (List.replicate m (0 : Int)).length = m := List.length_replicate
  clear e4 f4 htl hts
  exact long_head hn hn2 hab hla ht hnz e1 e2 f1 f2 hm fin
theorem long_loop {a b : List Int} (ha : Lm a) (hb : Lm b) {n : Nat} (hn : b.length = n) (hn2 : 2 ≤ n) (hab : n ≤ a.length) (hla : a.length < 68719476736) {top : Int} (ht : rd b ((n : Int) - 1) = top) (ht1 : 1 ≤ top) : ∀ (d s k : Nat),
    s + d = 31 → top * p2 s ≤ 4294967295 → 5 * a.length + d + 21 < k → limb_long.l0 k a b (s : Int) = some (natL (val a / val b), natL (val a % val b)) := by
  intro d
  induction d with
  | zero =>
    intro s k hs hts hk
    obtain ⟨k, rfl⟩ : ∃ m, k = m + 1 := ⟨k - 1, by omega⟩
    have hs31 : s = 31 := by omega
    refine long_end ha hb hn hn2 hab hla ht s k (by omega) hts ?_ (by omega)
    rw [hs31, show p2 31 = 2147483648 by decide +kernel]; omega
  | succ d ih =>
    intro s k hs hts hk
    obtain ⟨k, rfl⟩ : ∃ m, k = m + 1 := ⟨k - 1, by omega⟩
    rcases Int.lt_or_le (top * p2 s) 2147483648 with h | h
    · have h0 := Int.mul_nonneg (show 0 ≤ top by omega) (show 0 ≤ p2 s by have := p2_pos s; omega)
      simp only [limb_long.l0]
      rw [hn, wi64 (n := (n : Int) - 1) (by omega) (by omega), if_pos (by omega), if_pos (by omega), if_pos (by omega), ht, shl_u32 ⟨h0, hts⟩ (by omega), if_pos (by omega), wsucc (by omega)]
      refine ih (s + 1) k (by omega) ?_ (by omega)
      rw [p2_succ, ← Int.mul_assoc, Int.mul_comm top 2, Int.mul_assoc]; omega
    · exact long_end ha hb hn hn2 hab hla ht s k (by omega) hts h (by omega)
theorem long_ev {a b : List Int} (ha : Lm a) (hb : Fm b) (hn2 : 2 ≤ b.length) (hab : b.length ≤ a.length) (hla : a.length < 68719476736) {k : Nat} (hk : 5 * a.length + 60 < k) : limb_long.f k a b = some (natL (val a / val b), natL (val a % val b)) := by
  have h := (Fm.iff hb.1).1 hb
  have h1 := hb.1.rd (i := (b.length : Int) - 1)
  unfold limb_long.f
  refine long_loop ha hb.1 rfl hn2 hab hla rfl (by omega) 31 0 k (by omega) ?_ (by omega)
  rw [show p2 0 = 1 by decide +kernel]; omega

end Go.Proofs.Wk
/- What DivMod of layer 1 comes to: quotient and rest, or its error. Conditions: lists of limbs, of fewer than 2^36 elements. -/
namespace Go.Proofs.Wk
open Go.RowKit
set_option linter.unusedSimpArgs false
set_option linter.unusedVariables false

def divS (a b : List Int) : List Int × List Int × Int := if fmB a = true ∧ fmB b = true then (if b.length = 0 then ([], [], 5) else (natL (val a / val b), natL (val a % val b), 0)) else ([], [], 1)
end Go.Proofs.Wk
/- What the reference's trim, Formed, cmp and Same come to. Conditions: lists of limbs, of fewer than 2^40 elements. -/
namespace Go.Proofs.Wk
open Go.RowKit
set_option linter.unusedSimpArgs false
set_option linter.unusedVariables false

theorem rtrim_k : ∀ (n : Nat) (l : List Int), n ≤ l.length → l.length < 1099511627776 → ∀ k, n < k → psephosref01_trim.l0 k l n = some (trimL (l.take n)) := by
  intro n
  induction n with
  | zero =>
    intro l _ hl k hk
    obtain ⟨k, rfl⟩ : ∃ m, k = m + 1 := ⟨k - 1, by omega⟩
    simp only [psephosref01_trim.l0]
    rw [if_neg (by omega)]; simp [trimL]
  | succ n ih =>
    intro l hn hl k hk
    obtain ⟨k, rfl⟩ : ∃ m, k = m + 1 := ⟨k - 1, by omega⟩
    have hw : wrap64 (((n + 1 : Nat) : Int) - 1) = (n : Int) := by rw [wi64 (by omega) (by omega)]; omega
    have e := take_rd (xs := l) (i := (n : Int)) (by omega) (by omega)
    rw [show ((n : Int) + 1).toNat = n + 1 by omega, show (n : Int).toNat = n by omega] at e
    simp only [psephosref01_trim.l0]
    rw [hw, if_pos (by omega), if_pos (by omega), if_pos (by omega), e]
    by_cases h0 : rd l (n : Int) = 0
    · rw [if_pos h0, h0, trimL_snoc_zero]
      exact ih l (by omega) hl k (by omega)
    · rw [if_neg h0, trimL_snoc_ne _ h0, ← e]
      simp only [Option.bind_some]
      rw [if_pos (by omega), if_pos (by omega), show (((n + 1 : Nat) : Int)).toNat = n + 1 by omega, if_pos (by simp; omega)]
      simp
theorem rtrim_ev {l : List Int} (h : l.length < 1099511627776) {k : Nat} (hk : l.length < k) : psephosref01_trim.f k l = some (trimL l) := by
  have := rtrim_k l.length l (by omega) h k hk
  rw [List.take_length] at this; exact this
end Go.Proofs.Wk
/- What the reference's sub comes to: the difference. Conditions: lists of limbs, of fewer than 2^39 elements, the second one not above the first. -/
namespace Go.Proofs.Wk
open Go.RowKit
set_option linter.unusedSimpArgs false
set_option linter.unusedVariables false

theorem rsub_step {P c x y V A W v c' : Int} (h : V = A - W + P * c) (hs : v = x - c - y + 4294967296 * c') : V + P * v = A + P * x - (W + P * y) + (P * 4294967296) * c' := by grind
theorem rsub_loop {a b : List Int} (ha : Lm a) (hb : Lm b) (hv0 : val b ≤ val a) (hbl : b.length ≤ a.length) (hl : a.length < 549755813888) : ∀ (d i k : Nat) (out : List Int) (c : Int),
    i + d = a.length → out.length = a.length → Lm out → (∀ j : Int, (i : Int) ≤ j → rd out j = rd a j) → 0 ≤ c → c ≤ 1 → val (out.take i) = val (a.take i) - val (b.take i) + pw i * c → a.length + d + 2 < k →
    psephosref01_sub.l0 k b out c (a.length : Int) (i : Int) = some (natL (val a - val b)) := by
  intro d
  induction d with
  | zero =>
    intro i k out c hi hol hm hsame hc0 hc1 hv hk
    obtain ⟨k, rfl⟩ : ∃ m, k = m + 1 := ⟨k - 1, by omega⟩
    obtain rfl : i = a.length := by omega
    simp only [psephosref01_sub.l0]
    rw [if_neg (by omega), rtrim_ev (by omega) (by omega), trim_natL hm]; simp only [Option.bind_some]
    have e : val out = val a - val b := by
      rw [List.take_of_length_le (show out.length ≤ a.length by omega), List.take_length, List.take_of_length_le hbl] at hv
      have h1 := val_lt_pw hm
      rw [hol] at h1
      have h2 : c = 0 := by
        rcases (show c = 0 ∨ c = 1 by omega) with h | h
        · exact h
        · subst h; omega
      subst h2; omega
    rw [e]
  | succ d ih =>
    intro i k out c hi hol hm hsame hc0 hc1 hv hk
    obtain ⟨k, rfl⟩ : ∃ m, k = m + 1 := ⟨k - 1, by omega⟩
    have hx := ha.rd (i := (i : Int)); have hy := hb.rd (i := (i : Int))
    have go : ∀ s c' : Int, s = rd a (i : Int) - c - rd b (i : Int) + 4294967296 → 0 ≤ c' → c' ≤ 1 → s % 4294967296 = rd a (i : Int) - c - rd b (i : Int) + 4294967296 * c' → psephosref01_sub.l0 k b (out.set i (s % 4294967296)) c' (a.length : Int) ((i + 1 : Nat) : Int) = some (natL (val a - val b)) := by
      intro s c' hs h0 h1 hm2
      have e1 : (out.set i (s % 4294967296)).length = a.length := by rw [List.length_set]; exact hol
      have e2 : val ((out.set i (s % 4294967296)).take (i + 1)) = val (a.take (i + 1)) - val (b.take (i + 1)) + pw (i + 1) * c' := by
        rw [val_take_set (by omega), val_take_succ a, val_take_succ b, pw_succ]
        exact rsub_step hv hm2
      have e3 : ∀ j : Int, ((i + 1 : Nat) : Int) ≤ j → rd (out.set i (s % 4294967296)) j = rd a j := by
        intro j hj; rw [rd_set_ne (by omega) (by omega)]; exact hsame j (by omega)
      have e4 : i + 1 + d = a.length := by omega
      have e5 : a.length + d + 2 < k := by omega
      exact ih (i + 1) k _ _ e4 e1 (hm.set _ (by omega)) e3 h0 h1 e2 e5
    simp only [psephosref01_sub.l0]
    rw [if_pos (by omega)]
    by_cases hb1 : (i : Int) < (b.length : Int)
    · rw [if_pos hb1, if_pos (by omega), if_pos (by omega), wsucc (by omega), show ((i : Int)).toNat = i by omega, hsame (i : Int) (by omega), wu (n := rd a (i : Int)) (by omega) (by omega), wu (n := rd b (i : Int)) (by omega) (by omega), wu (n := c + rd b (i : Int)) (by omega) (by omega), wu (n := rd a (i : Int) + 4294967296) (by omega) (by omega), wu (by omega) (by omega)]
      by_cases hn : rd a (i : Int) < c + rd b (i : Int)
      · rw [if_pos hn]; exact go _ 1 (by omega) (by omega) (by omega) (by omega)
      · rw [if_neg hn]; exact go _ 0 (by omega) (by omega) (by omega) (by omega)
    · have hz := rd_past (xs := b) (i := (i : Int)) (by omega)
      rw [if_neg hb1, if_pos (by omega), if_pos (by omega), wsucc (by omega), show ((i : Int)).toNat = i by omega, hsame (i : Int) (by omega), wu (n := rd a (i : Int)) (by omega) (by omega), wu (n := rd a (i : Int) + 4294967296) (by omega) (by omega), wu (by omega) (by omega)]
      by_cases hn : rd a (i : Int) < c
      · rw [if_pos hn]; exact go _ 1 (by omega) (by omega) (by omega) (by omega)
      · rw [if_neg hn]; exact go _ 0 (by omega) (by omega) (by omega) (by omega)
theorem rsub_ev {a b : List Int} (ha : Lm a) (hb : Lm b) (hv0 : val b ≤ val a) (hbl : b.length ≤ a.length) (hl : a.length < 549755813888) {k : Nat} (hk : 2 * a.length + 5 < k) : psephosref01_sub.f k a b = some (natL (val a - val b)) := by
  unfold psephosref01_sub.f; simp only [Option.bind_some, List.nil_append]
  rw [if_pos (by simp; omega)]
  exact rsub_loop ha hb hv0 hbl hl a.length 0 k a 0 (by omega) rfl ha (fun _ _ => rfl) (by omega) (by omega) (by simp [val]) (by omega)

end Go.Proofs.Wk
/- What bits, half and shifted of the reference come to. Conditions: lists of limbs, of fewer than 2^37 elements. -/
namespace Go.Proofs.Wk
open Go.RowKit
set_option linter.unusedSimpArgs false
set_option linter.unusedVariables false

theorem rsplit (xs : List Int) (j : Nat) (h : j ≤ xs.length) : val xs = val (xs.take j) + pw j * val (xs.drop j) := by
  have := val_append_pw (xs.take j) (xs.drop j)
  rw [List.take_append_drop, List.length_take, Nat.min_eq_left h] at this; exact this
theorem rdrop {xs : List Int} {j : Nat} (h : j < xs.length) : val (xs.drop j) = rd xs (j : Int) + 4294967296 * val (xs.drop (j + 1)) := by
  have d1 := drop_rd (xs := xs) (i := (j : Int)) (by omega) (by omega)
  rw [show ((j : Int)).toNat = j by omega, show ((j : Int) + 1).toNat = j + 1 by omega] at d1
  rw [d1]; rfl
theorem p2_split (j : Nat) : p2 j = pw (j / 32) * p2 (j % 32) := by
  rw [← p2_pw, ← p2_add]; congr 1; omega
theorem and_one {y : Int} (h0 : 0 ≤ y) (h1 : y < 2) : Go.bits .and .u32 y 1 = y := by
  rcases (show y = 0 ∨ y = 1 by omega) with h | h <;> subst h <;> decide
theorem idx_div (j : Nat) (h : j < 4398046511104) : wrap64 (Int.tdiv (j : Int) 32) = ((j / 32 : Nat) : Int) := by
  rw [Int.tdiv_eq_ediv_of_nonneg (by omega)]; rw [show ((j : Int) / 32) = ((j / 32 : Nat) : Int) by omega]; exact wi64 (by omega) (by omega)
theorem idx_mod (j : Nat) : IntKind.u64.wrap (Int.tmod (j : Int) 32) = ((j % 32 : Nat) : Int) := by
  rw [Int.tmod_eq_emod_of_nonneg (by omega), show ((j : Int) % 32) = ((j % 32 : Nat) : Int) by omega]; exact wu (by omega) (by omega)
theorem wpred {j : Nat} (h : j < 4398046511104) : wrap64 (((j + 1 : Nat) : Int) - 1) = (j : Int) := by
  rw [show (((j + 1 : Nat) : Int) - 1) = (j : Int) by omega]; exact wi64 (by omega) (by omega)
/-- A number below p2 (j + 1): its limb at j / 32, and what it says of bit j. -/
theorem bit_at {x : List Int} (hx : Lm x) {j : Nat} (hj : j / 32 < x.length) (hv : val x < p2 (j + 1)) : 0 ≤ rd x ((j / 32 : Nat) : Int) / p2 (j % 32) ∧ rd x ((j / 32 : Nat) : Int) / p2 (j % 32) < 2 ∧ (rd x ((j / 32 : Nat) : Int) / p2 (j % 32) = 0 ↔ val x < p2 j) := by
  have e := rsplit x (j / 32) (by omega)
  have e2 := rdrop hj
  have t0 := val_nonneg (hx.take (j / 32)); have t1 := val_lt_pw (hx.take (j / 32))
  rw [List.length_take, Nat.min_eq_left (by omega)] at t1
  have d0 := val_nonneg (hx.drop (j / 32 + 1))
  have l0 := hx.rd (i := ((j / 32 : Nat) : Int))
  have hP := pw_pos (j / 32); have hp := p2_pos (j % 32)
  have s1 : p2 (j + 1) = pw (j / 32) * (2 * p2 (j % 32)) := by rw [p2_succ, p2_split]; exact Int.mul_left_comm _ _ _
  have s2 := p2_split j
  obtain ⟨D, hD⟩ : ∃ D, D = val (x.drop (j / 32)) := ⟨_, rfl⟩
  rw [← hD] at e e2
  have hD0 : 0 ≤ D := by omega
  have hDlt : D < 2 * p2 (j % 32) := by
    rcases Int.lt_or_le D (2 * p2 (j % 32)) with h | h
    · exact h
    · exfalso; have := Int.mul_le_mul_of_nonneg_left h (show 0 ≤ pw (j / 32) by omega); omega
  have h31 := p2_31 (show j % 32 ≤ 31 by omega)
  have hl : rd x ((j / 32 : Nat) : Int) = D := by omega
  rw [hl]
  refine ⟨Int.ediv_nonneg hD0 (by omega), Int.ediv_lt_of_lt_mul hp (by omega), ?_⟩
  constructor
  · intro h
    have h1 : D < p2 (j % 32) := by
      have := Int.mul_ediv_add_emod D (p2 (j % 32)); have := Int.emod_lt_of_pos D hp
      rw [h, Int.mul_zero] at *; omega
    have := Int.mul_le_mul_of_nonneg_left (show D + 1 ≤ p2 (j % 32) by omega) (show 0 ≤ pw (j / 32) by omega)
    rw [Int.mul_add] at this; omega
  · intro h
    apply Int.ediv_eq_zero_of_lt hD0
    rcases Int.lt_or_le D (p2 (j % 32)) with h1 | h1
    · exact h1
    · exfalso; have := Int.mul_le_mul_of_nonneg_left h1 (show 0 ≤ pw (j / 32) by omega); omega
theorem bits_loop {x : List Int} (hx : Lm x) (hl : x.length < 68719476736) : ∀ (n k : Nat), n ≤ 32 * x.length → val x < p2 n → n < k →
    ∃ m : Nat, psephosref01_bits.l0 k x (n : Int) = some (m : Int) ∧ m ≤ n ∧ val x < p2 m ∧ (m = 0 ∨ p2 (m - 1) ≤ val x) := by
  intro n
  induction n with
  | zero =>
    intro k hn hv hk
    obtain ⟨k, rfl⟩ : ∃ m, k = m + 1 := ⟨k - 1, by omega⟩
    refine ⟨0, ?_, by omega, hv, .inl rfl⟩
    simp only [psephosref01_bits.l0]; rw [if_neg (by omega)]
  | succ n ih =>
    intro k hn hv hk
    obtain ⟨k, rfl⟩ : ∃ m, k = m + 1 := ⟨k - 1, by omega⟩
    obtain ⟨b0, b1, b2⟩ := bit_at hx (show n / 32 < x.length by omega) hv
    simp only [psephosref01_bits.l0]
    rw [wpred (by omega), idx_div n (by omega), idx_mod n, if_pos (by omega), if_pos (by omega), if_pos (by omega), if_pos (by omega), shr_nat (by simp [IntKind.bits]; omega), and_one b0 b1]
    by_cases h : rd x ((n / 32 : Nat) : Int) / p2 (n % 32) = 0
    · rw [if_pos h]
      obtain ⟨m, h1, h2, h3, h4⟩ := ih k (by omega) (b2.1 h) (by omega)
      exact ⟨m, h1, by omega, h3, h4⟩
    · rw [if_neg h]
      refine ⟨n + 1, rfl, by omega, hv, .inr ?_⟩
      rcases Int.lt_or_le (val x) (p2 n) with h1 | h1
      · exact absurd (b2.2 h1) h
      · exact h1
theorem bits_ev {x : List Int} (hx : Lm x) (hl : x.length < 68719476736) {k : Nat} (hk : 32 * x.length < k) :
    ∃ m : Nat, psephosref01_bits.f k x = some (m : Int) ∧ m ≤ 32 * x.length ∧ val x < p2 m ∧ (m = 0 ∨ p2 (m - 1) ≤ val x) := by
  unfold psephosref01_bits.f
  rw [show wrap64 (32 * (x.length : Int)) = ((32 * x.length : Nat) : Int) by rw [show (32 * (x.length : Int)) = ((32 * x.length : Nat) : Int) by omega]; exact wi64 (by omega) (by omega)]
  exact bits_loop hx hl _ k (Nat.le_refl _) (by rw [p2_pw]; exact val_lt_pw hx) hk

theorem wadd2 {i w : Nat} (h : i + w < 4398046511104) : wrap64 ((i : Int) + (w : Int)) = ((i + w : Nat) : Int) := by
  rw [show ((i : Int) + (w : Int)) = ((i + w : Nat) : Int) by omega]; exact wi64 (by omega) (by omega)
/- half -/
theorem half_or {c y : Int} (hc0 : 0 ≤ c) (hc : c < 2147483648) (hy0 : 0 ≤ y) (hy : y ≤ 4294967295) : Go.bits .or .u32 c ((y * 2147483648) % 4294967296) = c + (y % 2) * 2147483648 := by
  have e : (y * 2147483648) % 4294967296 = (y % 2) * 2147483648 := by omega
  rw [e]
  exact or32 (s := 31) (by omega) hc0 (by rw [show p2 31 = 2147483648 by decide +kernel]; exact hc) (by omega) (by omega) (by rw [show p2 31 = 2147483648 by decide +kernel]; omega)
theorem half_loop {a : List Int} (ha : Lm a) (hl : a.length < 274877906944) : ∀ (d i k : Nat) (out : List Int),
    i + d = a.length → out.length = a.length → Lm out → (∀ j : Int, (i : Int) ≤ j → rd out j = rd a j) → val (out.take i) + pw i * (val (a.drop i) / 2) = val a / 2 → a.length + d + 2 < k →
    psephosref01_half.l0 k a out (a.length : Int) (i : Int) = some (natL (val a / 2)) := by
  intro d
  induction d with
  | zero =>
    intro i k out hi hol hm hsame hv hk
    obtain ⟨k, rfl⟩ : ∃ m, k = m + 1 := ⟨k - 1, by omega⟩
    obtain rfl : i = a.length := by omega
    simp only [psephosref01_half.l0]
    rw [if_neg (by omega), rtrim_ev (by omega) (by omega), trim_natL hm]; simp only [Option.bind_some]
    rw [List.take_of_length_le (by omega), List.drop_eq_nil_of_le (by omega)] at hv
    simp only [val, Int.zero_ediv, Int.mul_zero, Int.add_zero] at hv
    rw [hv]
  | succ d ih =>
    intro i k out hi hol hm hsame hv hk
    obtain ⟨k, rfl⟩ : ∃ m, k = m + 1 := ⟨k - 1, by omega⟩
    have hx := ha.rd (i := (i : Int)); have hy := ha.rd (i := ((i + 1 : Nat) : Int))
    have d1 := rdrop (xs := a) (j := i) (by omega)
    have hV := val_nonneg (ha.drop (i + 1))
    have hs := hsame (i : Int) (by omega)
    have go : ∀ (o : Int) (out2 : List Int), out2 = out.set i o → o = (val (a.drop i) / 2) % 4294967296 → psephosref01_half.l0 k a out2 (a.length : Int) ((i + 1 : Nat) : Int) = some (natL (val a / 2)) := by
      intro o out2 h2 ho
      subst h2
      refine ih (i + 1) k _ (by omega) (by rw [List.length_set]; exact hol) (hm.set _ (by omega)) ?_ ?_ (by omega)
      · intro j hj; rw [rd_set_ne (by omega) (by omega)]; exact hsame j (by omega)
      · have hdiv : val (a.drop i) / 2 / 4294967296 = val (a.drop (i + 1)) / 2 := by omega
        rw [val_take_set (by omega), pw_succ, ← hdiv, ho, ← hv]
        have := Int.emod_add_mul_ediv (val (a.drop i) / 2) 4294967296
        obtain ⟨E, hE⟩ : ∃ E, E = val (a.drop i) / 2 := ⟨_, rfl⟩
        rw [← hE] at this ⊢
        rw [Int.add_assoc, Int.mul_assoc, ← Int.mul_add, this]
    simp only [psephosref01_half.l0]
    rw [if_pos (by omega), if_pos (by omega), if_pos (by omega), Option.bind_some, wsucc (by omega), Int.toNat_natCast, hs]
    by_cases hn : ((i + 1 : Nat) : Int) < (a.length : Int)
    · have d2 := rdrop (xs := a) (j := i + 1) (by omega)
      have hor := half_or (c := rd a (i : Int) / 2) (y := rd a ((i + 1 : Nat) : Int)) (by omega) (by omega) hy.1 hy.2
      rw [if_pos hn, if_pos (by omega), rd_set_eq (by omega), hor]
      exact go _ _ (List.set_set _) (by omega)
    · have hz : val (a.drop (i + 1)) = 0 := by rw [List.drop_eq_nil_of_le (by omega)]; rfl
      rw [if_neg hn]
      exact go _ _ rfl (by omega)
theorem half_ev {a : List Int} (ha : Lm a) (hl : a.length < 274877906944) {k : Nat} (hk : 2 * a.length + 2 < k) : psephosref01_half.f k a = some (natL (val a / 2)) := by
  unfold psephosref01_half.f
  rw [Option.bind_some, if_pos (by simp; omega), Option.bind_some, List.nil_append]
  exact half_loop ha hl a.length 0 k a (by omega) rfl ha (fun _ _ => rfl) (by simp [val, pw_zero]) (by omega)

/- shifted -/
theorem rshift_step {V P W c A p x y l h : Int} (hV : V + P * W * c = A * (W * p)) (hy : y = x * p) (hl : y = l + 4294967296 * h) : V + P * W * (c + l) + P * W * 4294967296 * h = (A + P * x) * (W * p) := by grind
theorem shifted_loop {a : List Int} (ha : Lm a) {s w : Nat} (hs : s ≤ 31) (hl : a.length < 68719476736) (hw : w < 68719476736) {n : Int} (hn1 : ∀ _ : Unit, wrap64 (Int.tdiv n 32) = (w : Int)) (hn2 : ∀ _ : Unit, IntKind.u64.wrap (Int.tmod n 32) = (s : Int)) : ∀ (d i k : Nat) (out : List Int),
    i + d = a.length → out.length = a.length + w + 1 → Lm out → rd out ((i + w : Nat) : Int) < p2 s → (∀ j : Int, ((i + w : Nat) : Int) < j → rd out j = 0) → val (out.take (i + w)) + pw i * pw w * rd out ((i + w : Nat) : Int) = val (a.take i) * (pw w * p2 s) → a.length + w + 2 + d < k →
    psephosref01_shifted.l0 k a n out (a.length : Int) (i : Int) = some (natL (val a * (pw w * p2 s))) := by
  intro d
  induction d with
  | zero =>
    intro i k out hi hol hm hc hz hv hk
    obtain ⟨k, rfl⟩ : ∃ m, k = m + 1 := ⟨k - 1, by omega⟩
    obtain rfl : i = a.length := by omega
    simp only [psephosref01_shifted.l0]
    rw [if_neg (by omega), rtrim_ev (by omega) (by omega), trim_natL hm]; simp only [Option.bind_some]
    have e := val_take_succ out (a.length + w)
    rw [List.take_of_length_le (by omega), pw_add, hv, List.take_length] at e
    rw [e]
  | succ d ih =>
    intro i k out hi hol hm hc hz hv hk
    obtain ⟨k, rfl⟩ : ∃ m, k = m + 1 := ⟨k - 1, by omega⟩
    have hx := ha.rd (i := (i : Int)); have ho := hm.rd (i := ((i + w : Nat) : Int))
    have hp0 := p2_pos s; have hp1 := p2_31 hs; have hpp := p2_32 (show s ≤ 32 by omega)
    obtain ⟨x, hxe⟩ : ∃ x, x = rd a (i : Int) := ⟨_, rfl⟩
    rw [← hxe] at hx
    obtain ⟨y, hye⟩ : ∃ y, y = x * p2 s := ⟨_, rfl⟩
    have hy0 : 0 ≤ y := by rw [hye]; exact Int.mul_nonneg hx.1 (by omega)
    have hy1 : y ≤ 4294967295 * p2 s := by rw [hye]; exact Int.mul_le_mul_of_nonneg_right hx.2 (by omega)
    have hlow : (y % 4294967296) % p2 s = 0 := by
      have hdvd : p2 s ∣ (4294967296 : Int) := ⟨p2 (32 - s), hpp.symm⟩
      rw [Int.emod_emod_of_dvd _ hdvd, hye, Int.mul_emod_left]
    have hhi : y / 4294967296 < p2 s := by
      apply Int.ediv_lt_of_lt_mul (by omega); omega
    have hor := or32 (c := rd out ((i + w : Nat) : Int)) (y := y % 4294967296) (show s ≤ 32 by omega) ho.1 hc (by omega) (by omega) hlow
    have hsum : rd out ((i + w : Nat) : Int) + y % 4294967296 ≤ 4294967295 := by
      have h1 := Int.mul_ediv_add_emod (y % 4294967296) (p2 s)
      rw [hlow] at h1
      have h2 : (y % 4294967296) / p2 s < p2 (32 - s) := by
        apply Int.ediv_lt_of_lt_mul hp0; rw [Int.mul_comm, hpp]; omega
      have h3 := Int.mul_le_mul_of_nonneg_left (show (y % 4294967296) / p2 s + 1 ≤ p2 (32 - s) by omega) (show 0 ≤ p2 s by omega)
      rw [Int.mul_add, hpp] at h3
      omega
    simp only [psephosref01_shifted.l0]
    rw [if_pos (by omega), if_pos (by omega), if_pos (by omega), hn1 (), hn2 (), wadd2 (i := i) (w := w) (by omega), wsucc (i := i + w) (by omega), wsucc (i := i) (by omega), if_pos (by omega), if_pos (by omega), if_pos (by omega), if_pos (by omega), if_pos (by omega), ← hxe, wu (n := x) (by omega) (by omega), shl_u64 hx hs, ← hye, hor, Int.toNat_natCast, Int.toNat_natCast, Int.emod_eq_of_lt (a := y / 4294967296) (by omega) (by omega)]
    have l1 : ((out.set (i + w) (rd out ((i + w : Nat) : Int) + y % 4294967296)).set (i + w + 1) (y / 4294967296)).length = a.length + w + 1 := by rw [List.length_set, List.length_set]; exact hol
    have ei : i + 1 + w = i + w + 1 := by omega
    refine ih (i + 1) k _ (by omega) l1 ((hm.set _ ⟨by omega, hsum⟩).set _ (by omega)) ?_ ?_ ?_ (by omega)
    · rw [ei, rd_set_eq (by rw [List.length_set]; omega)]; exact hhi
    · intro j hj
      rw [rd_set_ne (by omega) (by omega), rd_set_ne (by omega) (by omega)]; exact hz j (by omega)
    · rw [ei, rd_set_eq (by rw [List.length_set]; omega), take_set_le (Nat.le_refl _), val_take_set (by omega), val_take_succ a, pw_succ, pw_add, ← hxe]
      have := rshift_step hv hye (show y = y % 4294967296 + 4294967296 * (y / 4294967296) by omega)
      rw [← this, Int.mul_assoc (pw i) 4294967296 (pw w), Int.mul_comm 4294967296 (pw w), ← Int.mul_assoc (pw i)]
theorem shifted_ev {a : List Int} (ha : Lm a) (hl : a.length < 68719476736) {n : Nat} (hn : n < 2199023255552) {k : Nat} (hk : 2 * a.length + n / 32 + 2 < k) : psephosref01_shifted.f k a (n : Int) = some (natL (val a * p2 n)) := by
  have c1 : a.length + n / 32 + 1 ≤ 70368744177664 := by omega
  have z : ∀ j : Int, rd (List.replicate (a.length + n / 32 + 1) (0 : Int)) j = 0 := by
    intro j
    by_cases h : j.toNat < (List.replicate (a.length + n / 32 + 1) (0 : Int)).length
    · rw [rd_getElem h]; simp
    · unfold Go.Proofs.Wk.rd; rw [List.getD_eq_getElem?_getD, List.getElem?_eq_none (by omega)]; rfl
  unfold psephosref01_shifted.f
  rw [idx_div n (by omega), wadd2 (i := a.length) (w := n / 32) (by omega), wsucc (by omega), if_pos (by omega), Int.toNat_natCast, if_pos c1, p2_split n]
  refine shifted_loop ha (show n % 32 ≤ 31 by omega) hl (show n / 32 < 68719476736 by omega) (fun _ => idx_div n (by omega)) (fun _ => idx_mod n) a.length 0 k _ (by omega) (by simp) (Lm.zeros _) ?_ (fun j _ => z j) ?_ (by omega)
  · rw [z]; exact p2_pos _
  · rw [z, take_zeros]; simp [val]

end Go.Proofs.Wk
/- What the reference's cmp comes to: as the program's compare. Conditions: lists of limbs, of fewer than 2^39 elements. -/
namespace Go.Proofs.Wk
open Go.RowKit
set_option linter.unusedSimpArgs false
set_option linter.unusedVariables false

theorem rcmp_l0 : ∀ (k : Nat) (a b : List Int) (i : Int), psephosref01_cmp.l0 k a b i = limb_compare.l0 k a b i := by
  intro k
  induction k with
  | zero => intro a b i; rfl
  | succ k ih => intro a b i; simp only [psephosref01_cmp.l0, limb_compare.l0, ih]
theorem rcmp_ev {a b : List Int} (ha : Fm a) (hb : Fm b) (hl : a.length < 549755813888) (hl' : b.length < 549755813888) {k : Nat} (hk : a.length < k) : psephosref01_cmp.f k a b = some (cmpS (val a) (val b)) := by
  rw [← compare_ev ha hb hl hl' hk]
  unfold psephosref01_cmp.f limb_compare.f
  rw [rcmp_l0]
  by_cases h1 : a.length < b.length
  · rw [if_neg (by omega), if_pos (by omega), if_pos (by omega)]
  · by_cases h2 : b.length < a.length
    · rw [if_neg (by omega), if_neg (by omega), if_neg (by omega), if_pos (by omega)]
    · rw [if_pos (by omega), if_neg (by omega), if_neg (by omega)]

end Go.Proofs.Wk
/- What divMod of the reference comes to: quotient and rest, bit by bit. Conditions: lists of limbs without noughts at the end, of fewer than 2^36 elements. -/
namespace Go.Proofs.Wk
open Go.RowKit
set_option linter.unusedSimpArgs false
set_option linter.unusedVariables false

theorem or32b {c y : Int} {s : Nat} (hs : s ≤ 32) (hc0 : 0 ≤ c) (hc : c < p2 s) (hy0 : 0 ≤ y) (hy : y ≤ 4294967295) (hd : y % p2 s = 0) : Go.bits .or .u32 y c = y + c := by
  obtain ⟨c', rfl⟩ := Int.eq_ofNat_of_zero_le hc0
  obtain ⟨y', rfl⟩ := Int.eq_ofNat_of_zero_le hy0
  rw [p2_nat] at hc hd
  have hc2 : c' < 2 ^ s := by omega
  have hd2 : y' % 2 ^ s = 0 := by
    have : ((y' % 2 ^ s : Nat) : Int) = 0 := by rw [Int.natCast_emod]; exact hd
    omega
  obtain ⟨t, rfl⟩ : ∃ t, y' = 2 ^ s * t := ⟨y' / 2 ^ s, by have := Nat.div_add_mod y' (2 ^ s); omega⟩
  have h32 : 2 ^ s ≤ 2 ^ 32 := Nat.pow_le_pow_right (by omega) hs
  rw [Go.u32_or_nat _ _ (by omega) (by omega), ← Nat.two_pow_add_eq_or_of_lt hc2]
  omega
theorem room32 {y : Int} {s : Nat} (hs : s ≤ 32) (hy : y ≤ 4294967295) (hd : y % p2 s = 0) : y + p2 s ≤ 4294967296 := by
  have hp0 := p2_pos s
  have hpp := p2_32 hs
  have e := Int.mul_ediv_add_emod y (p2 s)
  rw [hd] at e
  have h4 : y / p2 s < p2 (32 - s) := by
    apply Int.ediv_lt_of_lt_mul hp0; rw [Int.mul_comm, hpp]; omega
  have h5 := Int.mul_le_mul_of_nonneg_left (show y / p2 s + 1 ≤ p2 (32 - s) by omega) (show 0 ≤ p2 s by omega)
  rw [Int.mul_add, hpp] at h5; omega
theorem shl_one {s : Nat} (hs : s ≤ 31) : shl .u32 1 (s : Int) = p2 s := by
  unfold shl
  have h1 := p2_31 hs; have h2 := p2_pos s
  rw [show min ((s : Int)).toNat IntKind.u32.bits = s by simp [IntKind.bits]; omega, wu32, Int.one_mul]
  exact Int.emod_eq_of_lt (by unfold p2 at h2; omega) (by unfold p2 at h1; omega)
theorem val_set (xs : List Int) {j : Nat} (h : j < xs.length) (x : Int) : val (xs.set j x) = val xs + pw j * (x - rd xs (j : Int)) := by
  rw [rsplit (xs.set j x) (j + 1) (by rw [List.length_set]; omega), val_take_set h, List.drop_set_of_lt (by omega), rsplit xs (j + 1) (by omega), val_take_succ, Int.mul_sub]
  omega
/-- The bits below j are not set. -/
def Low (q : List Int) (j : Nat) : Prop := ∀ i : Nat, i < j → rd q ((i / 32 : Nat) : Int) % p2 (i % 32 + 1) = 0
theorem low_set {q : List Int} {i : Nat} (hl : i / 32 < q.length) (h : Low q (i + 1)) : Low (q.set (i / 32) (rd q ((i / 32 : Nat) : Int) + p2 (i % 32))) i := by
  intro j hj
  have hj1 := h j (by omega)
  by_cases e : j / 32 = i / 32
  · rw [e] at hj1 ⊢
    rw [rd_set_eq hl]
    obtain ⟨d, hd⟩ : ∃ d, i % 32 = (j % 32 + 1) + d := ⟨i % 32 - (j % 32 + 1), by omega⟩
    rw [hd, p2_add, Int.add_mul_emod_self_left]
    exact hj1
  · rw [rd_set_ne (by omega) (by omega)]; exact hj1
theorem natL_len_le {v : Int} {n : Nat} (h0 : 0 ≤ v) (h : v < pw n) : (natL v).length ≤ n := ((natL_fm v).len_le n).2 (by rw [val_natL h0]; exact h)
theorem step_up {A R b Q x P : Int} (hA : A = R + b * Q) (hx : x = b * P) : A = (R - x) + b * (Q + P) := by rw [hA, hx, Int.mul_add]; omega
/-- The bits of the quotient, from the top one down. -/
theorem dm_loop {A b : Int} (hA : 0 ≤ A) (hb : 0 < b) {L : Nat} (hL : L < 68719476736) : ∀ (j k : Nat) (q : List Int) (R X : Int), j ≤ 32 * q.length → q.length < 68719476736 → Lm q → Low q j → 0 ≤ R → R < b * p2 j → X = b * p2 j / 2 → R < pw L → X < pw L → A = R + b * val q → 3 * L + q.length + j + 20 < k →
    psephosref01_divMod.l0 k q (natL R) (natL X) ((j : Int) - 1) = some (natL (A / b), natL (A % b)) := by
  intro j
  induction j with
  | zero =>
    intro k q R X hj hql hq hlow hR0 hR1 hX hRL hXL hAe hk
    obtain ⟨k, rfl⟩ : ∃ m, k = m + 1 := ⟨k - 1, by omega⟩
    rw [show p2 0 = 1 by decide +kernel, Int.mul_one] at hR1
    simp only [psephosref01_divMod.l0]
    rw [if_neg (by omega), rtrim_ev (by omega) (by omega), trim_natL hq, Option.bind_some]
    have hd : A / b = val q := by
      rw [hAe, Int.add_mul_ediv_left _ _ (by omega), Int.ediv_eq_zero_of_lt hR0 hR1]; omega
    have hr : A % b = R := by
      rw [hAe, Int.add_mul_emod_self_left, Int.emod_eq_of_lt hR0 hR1]
    rw [hd, hr]
  | succ j ih =>
    intro k q R X hj hql hq hlow hR0 hR1 hX hRL hXL hAe hk
    obtain ⟨k, rfl⟩ : ∃ m, k = m + 1 := ⟨k - 1, by omega⟩
    have hp := p2_pos j
    have hX2 : X = b * p2 j := by
      rw [hX, p2_succ, Int.mul_left_comm]; omega
    have hX0 : 0 < X := by rw [hX2]; exact Int.mul_pos hb hp
    have hR2 : R < 2 * X := by
      rw [p2_succ, Int.mul_left_comm, ← hX2] at hR1; exact hR1
    have lR := natL_len_le hR0 hRL
    have lX := natL_len_le (show 0 ≤ X by omega) hXL
    have vR := val_natL hR0; have vX := val_natL (show 0 ≤ X by omega)
    have fR := natL_fm R; have fX := natL_fm X
    simp only [psephosref01_divMod.l0]
    rw [if_pos (by omega), rcmp_ev fR fX (by omega) (by omega) (by omega), vR, vX, Option.bind_some]
    by_cases h : X ≤ R
    · have hlen : (natL X).length ≤ (natL R).length := by
        apply (fX.len_le _).2; have := val_lt_pw fR.1; omega
      have hc : cmpS R X ≥ 0 := by unfold cmpS; rw [if_neg (by omega)]; split <;> omega
      have hs := hlow j (by omega)
      have ho := hq.rd (i := ((j / 32 : Nat) : Int))
      have hroom := room32 (s := j % 32 + 1) (by omega) ho.2 hs
      have hp1 := p2_pos (j % 32)
      have hps := p2_succ (j % 32)
      have hor := or32b (c := p2 (j % 32)) (y := rd q ((j / 32 : Nat) : Int)) (s := j % 32 + 1) (by omega) (by omega) (by omega) ho.1 ho.2 hs
      rw [if_pos hc, rsub_ev fR.1 fX.1 (by omega) hlen (by omega) (by omega), vR, vX, Option.bind_some, show (((j + 1 : Nat) : Int) - 1) = (j : Int) by omega, idx_div j (by omega), idx_mod j, if_pos (by omega), if_pos (by omega), if_pos (by omega), half_ev fX.1 (by omega) (by omega), vX, Option.bind_some, Int.toNat_natCast, shl_one (by omega), hor, wi64 (n := (j : Int) - 1) (by omega) (by omega)]
      refine ih k _ _ _ (by rw [List.length_set]; omega) (by rw [List.length_set]; exact hql) (hq.set _ (by omega)) (low_set (by omega) hlow) (by omega) (by omega) (by rw [hX2]) (by omega) (by omega) ?_ (by rw [List.length_set]; omega)
      rw [val_set q (by omega)]
      refine step_up hAe ?_
      rw [hX2, p2_split j]; congr 2; omega
    · have hc : ¬ cmpS R X ≥ 0 := by unfold cmpS; rw [if_pos (by omega)]; omega
      rw [if_neg hc, show (((j + 1 : Nat) : Int) - 1) = (j : Int) by omega, half_ev fX.1 (by omega) (by omega), vX, Option.bind_some, wi64 (n := (j : Int) - 1) (by omega) (by omega)]
      exact ih k _ _ _ (by omega) hql hq (fun i hi => hlow i (by omega)) hR0 (by omega) (by rw [hX2]) hRL (by omega) hAe (by omega)

theorem rd_zeros (n : Nat) (j : Int) : rd (List.replicate n (0 : Int)) j = 0 := by
  by_cases h : j.toNat < (List.replicate n (0 : Int)).length
  · rw [rd_getElem h]; simp
  · unfold Go.Proofs.Wk.rd; rw [List.getD_eq_getElem?_getD, List.getElem?_eq_none (by omega)]; rfl
theorem wsub2 {m n : Nat} (h : m < 4398046511104) (h' : n < 4398046511104) : wrap64 ((m : Int) - (n : Int)) = (m : Int) - (n : Int) := wi64 (by omega) (by omega)
theorem dm_small {A b : Int} {m n : Nat} (hA : A < p2 m) (hn : n = 0 ∨ p2 (n - 1) ≤ b) (hb : 0 < b) (hbn : b < p2 n) (h : m < n) : A < b := by
  rcases hn with h0 | h0
  · omega
  · have := p2_le (show m ≤ n - 1 by omega); omega
theorem dm_top {A b : Int} {m n : Nat} (hA : A < p2 m) (hn : n = 0 ∨ p2 (n - 1) ≤ b) (hb : 0 < b) (hbn : b < p2 n) (h : n ≤ m) : A < b * p2 (m - n + 1) := by
  rcases hn with h0 | h0
  · subst h0; rw [show p2 0 = 1 by decide +kernel] at hbn; omega
  · have h1 : 0 < n := by
      rcases Nat.eq_zero_or_pos n with h2 | h2
      · subst h2; rw [show p2 0 = 1 by decide +kernel] at hbn; omega
      · exact h2
    have e : p2 m = p2 (n - 1) * p2 (m - n + 1) := by rw [← p2_add]; congr 1; omega
    have := Int.mul_le_mul_of_nonneg_right h0 (show 0 ≤ p2 (m - n + 1) by have := p2_pos (m - n + 1); omega)
    omega
theorem rdivMod_ev {a b : List Int} (ha : Fm a) (hb : Fm b) (hb0 : b.length ≠ 0) (hla : a.length < 68719476) (hlb : b.length < 68719476) {k : Nat} (hk : 40 * a.length + 40 * b.length + 60 < k) : psephosref01_divMod.f k a b = some (natL (val a / val b), natL (val a % val b)) := by
  have A0 := val_nonneg ha.1
  have hbp : 0 < val b := by
    rcases b with _ | ⟨x, xs⟩
    · exact absurd rfl hb0
    · exact hb.pos
  obtain ⟨m, e1, e2, e3, e4⟩ := bits_ev ha.1 (by omega) (k := k) (by omega)
  obtain ⟨n, f1, f2, f3, f4⟩ := bits_ev hb.1 (by omega) (k := k) (by omega)
  unfold psephosref01_divMod.f
  rw [e1, Option.bind_some, f1, Option.bind_some, wsub2 (by omega) (by omega)]
  by_cases h : m < n
  · have hlt := dm_small e3 f4 hbp f3 h
    rw [if_pos (by omega), rtrim_ev (by omega) (by omega), trim_natL ha.1, Option.bind_some, Int.ediv_eq_zero_of_lt A0 hlt, Int.emod_eq_of_lt A0 hlt, natL_zero]
  · obtain ⟨d, hd⟩ : ∃ d, m = n + d := ⟨m - n, by omega⟩
    have ht := dm_top e3 f4 hbp f3 (by omega)
    rw [show m - n + 1 = d + 1 by omega] at ht
    have c1 : d / 32 + 1 ≤ 70368744177664 := by omega
    have hlen : (List.replicate (d / 32 + 1) (0 : Int)).length = d / 32 + 1 := List.length_replicate
    have hX : val b * p2 d < pw (b.length + (d / 32 + 1)) := by
      rw [pw_add]
      have h1 := val_lt_pw hb.1
      have h2 : p2 d ≤ pw (d / 32 + 1) := by rw [← p2_pw]; exact p2_le (by omega)
      have h3 := Int.mul_lt_mul_of_pos_right h1 (p2_pos d)
      have h4 := Int.mul_le_mul_of_nonneg_left h2 (show 0 ≤ pw b.length by have := pw_pos b.length; omega)
      omega
    have hA : val a < pw (a.length + b.length + 2) := by have := val_lt_pw ha.1; have := pw_le (show a.length ≤ a.length + b.length + 2 by omega); omega
    have hX' : val b * p2 d < pw (a.length + b.length + 2) := by have := pw_le (show b.length + (d / 32 + 1) ≤ a.length + b.length + 2 by omega); omega
    rw [if_neg (by omega), show ((m : Int) - (n : Int)) = (d : Int) by omega, idx_div d (by omega), wsucc (by omega), if_pos (by omega), Int.toNat_natCast, if_pos c1, rtrim_ev (by omega) (by omega), trim_natL ha.1, Option.bind_some, shifted_ev hb.1 (by omega) (by omega) (by omega), Option.bind_some]
    have fin := dm_loop A0 hbp (L := a.length + b.length + 2) (by omega) (d + 1) k (List.replicate (d / 32 + 1) 0) (val a) (val b * p2 d) (by omega) (by omega) (Lm.zeros _) (by intro i _; rw [rd_zeros]; simp) A0 ht (by rw [p2_succ, Int.mul_left_comm]; omega) hA hX' (by rw [val_zeros]; simp) (by omega)
    rw [show (((d + 1 : Nat) : Int) - 1) = (d : Int) by omega] at fin
    exact fin

end Go.Proofs.Wk
/- What the greatest common divisor of layer 1, and the reference's, come to. Conditions: lists of limbs, of fewer than 2^20 elements; as many rounds as are needed. -/
namespace Go.Proofs.Wk
open Go.RowKit
set_option linter.unusedSimpArgs false
set_option linter.unusedVariables false

/-- The greatest common divisor of two numbers. -/
def gcdI (x y : Int) : Int := ((Nat.gcd x.toNat y.toNat : Nat) : Int)
theorem gcdI_zero {x : Int} (h : 0 ≤ x) : gcdI x 0 = x := by
  unfold gcdI; rw [show (0 : Int).toNat = 0 from rfl, Nat.gcd_zero_right]; omega
theorem gcdI_step {x y : Int} (hx : 0 ≤ x) (hy : 0 < y) : gcdI x y = gcdI y (x % y) := by
  unfold gcdI
  rw [Int.toNat_emod hx (by omega), Nat.gcd_comm x.toNat, Nat.gcd_rec y.toNat x.toNat, Nat.gcd_comm]
theorem gcdI_nonneg (x y : Int) : 0 ≤ gcdI x y := by unfold gcdI; omega
theorem gcdI_pos {x y : Int} (hy : 0 < y) : 0 < gcdI x y := by
  unfold gcdI
  have := Nat.gcd_pos_of_pos_right x.toNat (show 0 < y.toNat by omega)
  omega
theorem gcdI_le {x y : Int} (hy : 0 < y) : gcdI x y ≤ y := by
  unfold gcdI
  have := Nat.gcd_le_right x.toNat (show 0 < y.toNat by omega)
  omega
theorem natL_len_zero {x : Int} (hx : 0 ≤ x) : (natL x).length = 0 ↔ x = 0 := by
  constructor
  · intro h
    have := List.eq_nil_of_length_eq_zero h
    have e := val_natL hx
    rw [this] at e; simp only [val] at e; omega
  · intro h; subst h; rw [natL_zero]; rfl
theorem fm_of {l : List Int} (hl : Lm l) (h : fmB l = true) : l = natL (val l) ∧ l.length ≤ 400 ∧ 0 ≤ val l ∧ val l < pw 400 := by
  obtain ⟨h1, h2⟩ := (fmB_iff hl).1 h
  exact ⟨h2.natL, h1, val_nonneg hl, (h2.len_le 400).1 h1⟩
def gcdS (a b : List Int) : List Int × Int := if fmB a = true ∧ fmB b = true then (natL (gcdI (val a) (val b)), 0) else ([], 1)
end Go.Proofs.Wk
/- More rules: windows, division in a drawn region. -/
namespace Go.Proofs.Wk
open Go.RowKit
set_option linter.unusedVariables false
set_option linter.unusedSimpArgs false
section
variable {P : Program} {w0 : World} {M O : Nat → Prop} {n : Nat} {K : Slots} {L : List Blk} {G : List (World → Prop)} {Q : Exit → Act → World → Prop} {ops : Array Oper} {rest : List Oper} {w : World} {a : Act} {X : Act → World → Prop}
  {d : Nat} {ty : TypeId} {pos : String} {af : Array Edge} {gd : Option (Nat × Bool)} {N : Act → World → Prop} {S : World → Prop} {α : Type} {D : Nat → Prop} {fuel : Nat} {l : Array Bool}
theorem Pw.takeQuo {op : BinOp} {t t' : TypeId} {x y : Operand} {k : IntKind} {u v : Int} {r : Value} (i : Nat) (l' : Array Bool) (ho : ops[i]? = some ⟨some d, .binOp op t x y t', ty, pos, af, gd⟩) (hop : op = .quo) (hx : ev K x = some (.int k u)) (hy : ev K y = some (.int k v)) (h0 : ¬ v = 0) (hr : wv k (u.tdiv v) = some r)
    (hw : wantB K ops gd = some true) (hn : Nat.blt d n = true) (hc : takeB ops l i l' = true) (hQ : NoPan Q) (hS : ∀ w, St w0 M O L G w → S w)
    (h : Pw w0 M O n ((d, r) :: K) L G (wpAnyH P .any ops Q S fuel l')) : Pw w0 M O n K L G (wpAnyH P .any ops Q S (fuel + 1) l) :=
  Pw.take i l' ho rfl hn hw hc hQ hS (fun a w ha _ => by
    subst hop
    rw [wv_eq hr]
    simp [execOp, ha.eval hx, ha.eval hy, eqGuard, binOp, Op.intDiv, h0]) h
theorem Pw.takeRem {op : BinOp} {t t' : TypeId} {x y : Operand} {k : IntKind} {u v : Int} (i : Nat) (l' : Array Bool) (ho : ops[i]? = some ⟨some d, .binOp op t x y t', ty, pos, af, gd⟩) (hop : op = .rem) (hx : ev K x = some (.int k u)) (hy : ev K y = some (.int k v)) (h0 : ¬ v = 0)
    (hw : wantB K ops gd = some true) (hn : Nat.blt d n = true) (hc : takeB ops l i l' = true) (hQ : NoPan Q) (hS : ∀ w, St w0 M O L G w → S w)
    (h : Pw w0 M O n ((d, .int k (u.tmod v)) :: K) L G (wpAnyH P .any ops Q S fuel l')) : Pw w0 M O n K L G (wpAnyH P .any ops Q S (fuel + 1) l) :=
  Pw.take i l' ho rfl hn hw hc hQ hS (fun a w ha _ => by
    subst hop
    simp [execOp, ha.eval hx, ha.eval hy, eqGuard, binOp, Op.intDiv, h0]) h
theorem Pw.takeCut {x y : Operand} {t e : TypeId} {A : Option Addr} {m c : Nat} {k : IntKind} {j : Int} {f : TypeInfo} (i : Nat) (l' : Array Bool) (ho : ops[i]? = some ⟨some d, .slice t x none (some y) none, ty, pos, af, gd⟩) (hx : ev K x = some (.slice A m c)) (hj : ev K y = some (.int k j)) (ht : P.underlying t = some (.slice e)) (hf : P.info? e = some f) (h0 : 0 ≤ j) (h1 : j ≤ (c : Int))
    (hw : wantB K ops gd = some true) (hn : Nat.blt d n = true) (hc : takeB ops l i l' = true) (hQ : NoPan Q) (hS : ∀ w, St w0 M O L G w → S w)
    (h : Pw w0 M O n ((d, .slice A j.toNat c) :: K) L G (wpAnyH P .any ops Q S fuel l')) : Pw w0 M O n K L G (wpAnyH P .any ops Q S (fuel + 1) l) :=
  Pw.take i l' ho rfl hn hw hc hQ hS (fun a w ha _ => cutTo_run hx hj ht hf h0 h1 ha) h
theorem own_cell {g : Nat} {i : Int} {out : List Int} {k : IntKind} {t : TypeId} {W : World} (hb : W.heap[g]? = some (row (out.map (Value.int k)) t)) (h0 : 0 ≤ i) (hi : i < (out.length : Int)) : W.cell? ((⟨g, 0, none⟩ : Addr).add (i.toNat * 1)) = some (.int k (rd out i)) := by
  rw [add_none]; exact ints_cell hb h0 hi
theorem own_cellX {g : Nat} {i : Int} {out : List Int} {ex : List Value} {k : IntKind} {t : TypeId} {W : World} (hb : W.heap[g]? = some (row (out.map (Value.int k) ++ ex) t)) (h0 : 0 ≤ i) (hi : i < (out.length : Int)) : W.cell? ((⟨g, 0, none⟩ : Addr).add (i.toNat * 1)) = some (.int k (rd out i)) := by
  rw [add_none]; exact ints_cellX hb h0 hi
/-- After a call in a region that draws its order. -/
theorem Pw.after (hS : ∀ w, St w0 M O L G w → S w) (h : Pw w0 M O n K L G X) : Pw w0 M O n K L G (fun a w => S w ∧ X a w) := fun a w ha hs => ⟨hS w hs, h a w ha hs⟩
/-- x[i:j]. -/
theorem Pw.cut {x lo hi : Operand} {t e : TypeId} {A : Option Addr} {m c : Nat} {k k' : IntKind} {i j : Int} {f : TypeInfo} (hx : ev K x = some (.slice A m c)) (hlo : ev K lo = some (.int k i)) (hj : ev K hi = some (.int k' j)) (ht : P.underlying t = some (.slice e)) (hf : P.info? e = some f) (h0 : 0 ≤ i) (h1 : i ≤ j) (h2 : j ≤ (c : Int)) (h5 : i.toNat < c)
    (hw : wantB K ops gd = some true) (hn : Nat.blt d n = true) (h : Pw w0 M O n ((d, .slice (A.map (·.add (i.toNat * f.size))) (j.toNat - i.toNat) (c - i.toNat)) :: K) L G N) : Pw w0 M O n K L G (OpG P ops ⟨some d, .slice t x (some lo) (some hi) none, ty, pos, af, gd⟩ N Q) :=
  Pw.stepE hw rfl hn fun a w ha hs => ⟨_, _, _, w, by
    have h3 : 0 ≤ j := by omega
    have h4 : i.toNat ≤ j.toNat := by omega
    have h6 : c ≠ i.toNat := by omega
    have h7 : i ≤ max j 0 := by omega
    simp [execOp, h6, h7, ha.eval hx, ha.eval hlo, ha.eval hj, Instr.sliceAt, Instr.slice, Instr.sliceBounds, Instr.sliceBound, asIntOf, underlying, ht, sizeOf, typeInfo, hf, h0, h2, h3, h1, h4], hs, h⟩
/-! ### Structs -/
theorem foldSet (off : Nat) : ∀ (vs : List Value) (k : Nat) (cs : List Value), off + k + vs.length ≤ cs.length →
    ((vs.zipIdx k).foldl (fun (cs : List Value) (x : Value × Nat) => cs.set (off + x.2) x.1) cs).length = cs.length ∧ ∀ j, ((vs.zipIdx k).foldl (fun (cs : List Value) (x : Value × Nat) => cs.set (off + x.2) x.1) cs)[j]? = if off + k ≤ j ∧ j < off + k + vs.length then vs[j - (off + k)]? else cs[j]?
  | [], k, cs, h => ⟨rfl, fun j => by rw [if_neg (by simp only [List.length_nil]; omega)]; rfl⟩
  | v :: r, k, cs, h => by
    simp only [List.length_cons] at h
    obtain ⟨h1, h2⟩ := foldSet off r (k + 1) (cs.set (off + k) v) (by simp; omega)
    rw [List.zipIdx_cons, List.foldl_cons]
    refine ⟨by simpa using h1, fun j => ?_⟩
    rw [h2 j]
    simp only [List.length_cons]
    by_cases hj : j = off + k
    · subst hj
      rw [if_neg (by omega), if_pos (by omega), List.getElem?_set_self (by omega), Nat.sub_self]; rfl
    · by_cases hj2 : off + (k + 1) ≤ j ∧ j < off + (k + 1) + r.length
      · rw [if_pos hj2, if_pos (by omega)]
        have : j - (off + k) = (j - (off + (k + 1))) + 1 := by omega
        rw [this, List.getElem?_cons_succ]
      · rw [if_neg hj2, if_neg (by omega), List.getElem?_set_ne (by omega)]
theorem fold_arr (off : Nat) : ∀ (vs : List (Value × Nat)) (cs : List Value), vs.foldl (fun (cs : Array Value) (x : Value × Nat) => cs.setIfInBounds (off + x.2) x.1) cs.toArray = (vs.foldl (fun (cs : List Value) (x : Value × Nat) => cs.set (off + x.2) x.1) cs).toArray
  | [], cs => rfl
  | x :: r, cs => by
    rw [List.foldl_cons, List.foldl_cons, ← fold_arr off r]
    simp
theorem foldPut {off : Nat} {v : Value} {cs l : List Value} (h : putN off v.cells.toList cs = some l) (hl : off + v.cells.toList.length ≤ cs.length) :
    v.cells.zipIdx.foldl (fun (cs : Array Value) (x : Value × Nat) => cs.setIfInBounds (off + x.2) x.1) cs.toArray = l.toArray := by
  obtain ⟨p1, p2, p3⟩ := putN_spec _ _ _ _ h
  obtain ⟨h1, h2⟩ := foldSet off v.cells.toList 0 cs (by omega)
  have e1 : v.cells.zipIdx = (v.cells.toList.zipIdx 0).toArray := by
    rw [← Array.toList_inj]; simp
  rw [e1]
  rw [List.foldl_toArray, fold_arr]
  congr 1
  apply List.ext_getElem?
  intro j
  rw [h2 j, p3 j]; simp
def fpl (P : Program) : List Field → Option (List (Nat × Nat))
  | [] => some []
  | f :: r => match P.info? f.type with
    | some i => match fpl P r with
      | some l => some ((f.offset, i.size) :: l)
      | none => none
    | none => none
def bparts (pl : List (Nat × Nat)) : List Value → List (Nat × Value) → Option (List Value)
  | cs, [] => some cs
  | cs, (i, v) :: r => match pl[i]? with
    | some (off, size) => bif Nat.beq v.cells.toList.length size && Nat.ble (off + size) cs.length then (match putN off v.cells.toList cs with
      | some cs' => bparts pl cs' r
      | none => none) else none
    | none => none
theorem bparts_spec (pl : List (Nat × Nat)) : ∀ (ps : List (Nat × Value)) (cs l : List Value), bparts pl cs ps = some l → Instr.fill (pl.toArray[·]?) cs.toArray ps = some l.toArray
  | [], cs, l, h => by unfold bparts at h; cases h; rfl
  | (i, v) :: r, cs, l, h => by
    unfold bparts at h
    split at h
    next off size e =>
      rw [Bool.cond_eq_ite] at h
      split at h
      next hb =>
        simp only [Bool.and_eq_true] at hb
        have hs := Nat.eq_of_beq_eq_true hb.1
        have hl := Nat.le_of_ble_eq_true hb.2
        split at h
        next cs' hp =>
          have := bparts_spec pl r cs' l h
          unfold Instr.fill
          have e' : pl.toArray[i]? = some (off, size) := by simpa using e
          simp only [e']
          have hvs : v.cells.size = size := by rw [← hs]; simp
          have h5 : cs.toArray.size = cs.length := List.size_toArray
          have hc : ¬ ((decide (v.cells.size ≠ size) || decide (off + v.cells.size > cs.toArray.size)) = true) := by
            rw [Bool.or_eq_true, decide_eq_true_eq, decide_eq_true_eq]; omega
          rw [if_neg hc, foldPut hp (by omega)]
          exact this
        next => cases h
      next => cases h
    next => cases h
def buildv (P : Program) (t : TypeId) (ps : List (Nat × Value)) : Option Value := match P.underlying t with
  | some (.struct fs) => match fpl P fs.toList with
    | some pl => match P.info? t with
      | some i => match i.zero with
        | some z => match bparts pl z.cells.toList ps with
          | some cs => some (.agg cs.toArray)
          | none => none
        | none => none
      | none => none
    | none => none
  | _ => none
def fplace (f : Field) : Sem (Nat × Nat) := do Pure.pure (f.offset, ← sizeOf f.type)
theorem fplace_run {f : Field} {i : TypeInfo} (e : P.info? f.type = some i) : (fplace f).run P w = .ok (f.offset, i.size) w := by
  simp [fplace, sizeOf, typeInfo, e]
theorem fpl_run : ∀ (fs : List Field) (pl : List (Nat × Nat)), fpl P fs = some pl → (fs.mapM fplace).run P w = .ok pl w
  | [], pl, h => by unfold fpl at h; cases h; rfl
  | f :: r, pl, h => by
    unfold fpl at h
    split at h
    next i e =>
      split at h
      next l e2 =>
        cases h
        rw [List.mapM_cons]
        have := fpl_run r l e2
        simp only [Sem.run_bind, fplace_run e, Result.andThen_ok, this, Sem.run_pure]
      next => cases h
    next => cases h
theorem build_run {t : TypeId} {ps : List (Nat × Value)} {v : Value} (h : buildv P t ps = some v) (w : World) : (Instr.build t ps.toArray).run P w = .ok v w := by
  unfold buildv at h
  split at h
  next fs e1 =>
    split at h
    next pl e2 =>
      split at h
      next i e3 =>
        split at h
        next z e4 =>
          split at h
          next cs e5 =>
            cases h
            have h1 := bparts_spec pl ps z.cells.toList cs e5
            have h2 := fpl_run (w := w) fs.toList pl e2
            have h3 : (fs.mapM fplace).run P w = .ok pl.toArray w := by
              rw [Array.mapM_eq_mapM_toList]
              simp [h2]
            simp only [Array.toArray_toList] at h1
            simp only [List.getElem?_toArray] at h1
            have hz : (zeroValue t).run P w = .ok z w := by simp [zeroValue, typeInfo, e3, e4]
            have hu : (underlying t).run P w = .ok (.struct fs) w := by simp [underlying, e1]
            show ((do
              let zero := (← zeroValue t).cells
              match ← underlying t with
              | .struct fields => do
                let places ← fields.mapM fplace
                let some cells := Instr.fill (places[·]?) zero ps.toArray.toList | stuck "build: no such field, or a part of the wrong size"
                Pure.pure (.agg cells)
              | .array _ elem => do
                let size ← sizeOf elem
                let some cells := Instr.fill (fun i => some (i * size, size)) zero ps.toArray.toList | stuck "build: a part of the wrong size"
                Pure.pure (.agg cells)
              | _ => stuck "build: struct or array type expected") : Sem Value).run P w = _
            simp only [Sem.run_bind, hz, hu, h3, Result.andThen_ok, List.getElem?_toArray, h1, Sem.run_pure]
          next => cases h
        next => cases h
      next => cases h
    next => cases h
  next => cases h
def evp (K : Slots) : List (Nat × Operand) → Option (List (Nat × Value))
  | [] => some []
  | (i, x) :: r => match ev K x with
    | some v => match evp K r with
      | some l => some ((i, v) :: l)
      | none => none
    | none => none
theorem evp_map (ha : Sat n K a) : ∀ {ps : List (Nat × Operand)} {vs : List (Nat × Value)}, evp K ps = some vs → ps.map (fun p => (p.1, a.eval p.2)) = vs
  | [], vs, h => by unfold evp at h; cases h; rfl
  | (i, x) :: r, vs, h => by
    unfold evp at h
    split at h
    next v e =>
      split at h
      next l e2 => cases h; rw [List.map_cons, evp_map ha e2, ha.eval e]
      next => cases h
    next => cases h
theorem Pw.build {t : TypeId} {ps : Array (Nat × Operand)} {vs : List (Nat × Value)} {v : Value} (hp : evp K ps.toList = some vs) (hv : buildv P t vs = some v) (hw : wantB K ops gd = some true) (hn : Nat.blt d n = true) (h : Pw w0 M O n ((d, v) :: K) L G N) :
    Pw w0 M O n K L G (OpG P ops ⟨some d, .build t ps, ty, pos, af, gd⟩ N Q) :=
  Pw.stepE hw rfl hn fun a w ha hs => ⟨v, L, G, w, by
    have h1 := evp_map ha hp
    have h2 : ps.map (fun p => (p.1, a.eval p.2)) = vs.toArray := by rw [← Array.toList_inj]; simpa using h1
    have h3 := build_run hv w
    rw [← h2] at h3
    simp [execOp, h3], hs, h⟩
theorem Pw.takeBuild {t : TypeId} {ps : Array (Nat × Operand)} {vs : List (Nat × Value)} {v : Value} (i : Nat) (l' : Array Bool) (ho : ops[i]? = some ⟨some d, .build t ps, ty, pos, af, gd⟩) (hp : evp K ps.toList = some vs) (hv : buildv P t vs = some v) (hw : wantB K ops gd = some true) (hn : Nat.blt d n = true) (hc : takeB ops l i l' = true) (hQ : NoPan Q) (hS : ∀ w, St w0 M O L G w → S w)
    (h : Pw w0 M O n ((d, v) :: K) L G (wpAnyH P .any ops Q S fuel l')) : Pw w0 M O n K L G (wpAnyH P .any ops Q S (fuel + 1) l) :=
  Pw.take i l' ho rfl hn hw hc hQ hS (fun a w ha hs => by
    have h1 := evp_map ha hp
    have h2 : ps.map (fun p => (p.1, a.eval p.2)) = vs.toArray := by rw [← Array.toList_inj]; simpa using h1
    have h3 := build_run hv w
    rw [← h2] at h3
    simp [execOp, h3]) h
theorem Pw.storeB {x y : Operand} {g i : Nat} {cs cs' vs : List Value} {t u : TypeId} {v : Value} {L' : List Blk} {f : TypeInfo} (hx : ev K x = some (.pointer (some ⟨g, i, none⟩))) (hy : ev K y = some v) (hu : Upd L ⟨g, .cells cs.toArray t (0, 0)⟩ (.cells cs'.toArray t (0, 0)) L') (hvs : v.cells.toList = vs) (hf : P.info? u = some f) (hfs : Nat.beq f.size vs.length = true) (hone : oneL vs = true)
    (hput : putN i vs cs = some cs') (hw : wantB K ops gd = some true) (h : Pw w0 M O n K L' G N) :
    Pw w0 M O n K L G (OpG P ops ⟨none, .store u x y, ty, pos, af, gd⟩ N Q) := Pw.store hx hy hvs hf hfs hone hput hu hw h
/-! ### A literal of two structs of two cells -/
end
end Go.Proofs.Wk
/- What the reference's Add comes to. Conditions: lists of limbs, of fewer than 2^39 elements. -/
namespace Go.Proofs.Wk
open Go.RowKit
set_option linter.unusedSimpArgs false
set_option linter.unusedVariables false

end Go.Proofs.Wk
/- What the reference's mul and Mul come to: the product, or its error. Conditions: lists of limbs, of fewer than 2^38 elements. -/
namespace Go.Proofs.Wk
open Go.RowKit
set_option linter.unusedSimpArgs false
set_option linter.unusedVariables false

end Go.Proofs.Wk
/- What Same of the reference comes to. Conditions stand with it. -/
namespace Go.Proofs.Wk
open Go.RowKit
set_option linter.unusedSimpArgs false
set_option linter.unusedVariables false

end Go.Proofs.Wk
/- What layer 2 forms, at the level of numbers. -/
namespace Go.Proofs.Wk
open Go.RowKit
set_option linter.unusedSimpArgs false
set_option linter.unusedVariables false
def lowS (a b : List Int) : List Int × List Int := (natL (val a / gcdI (val a) (val b)), natL (val b / gcdI (val a) (val b)))
def makeS (a b : List Int) : List Int × List Int × Int := if fmB a = true ∧ fmB b = true then (if b.length = 0 then ([], [], 5) else ((lowS a b).1, (lowS a b).2, 0)) else ([], [], 1)
theorem val_pos_of {b : List Int} (hb : Fm b) (h : b.length ≠ 0) : 0 < val b := by
  rcases b with _ | ⟨x, xs⟩
  · exact absurd rfl h
  · exact hb.pos
theorem fmB_natL' {g : Int} (h0 : 0 ≤ g) (h : g < pw 400) : fmB (natL g) = true := fmB_natL (natL_len_le h0 h)
theorem ofN_fmB (n : Int) : fmB (ofN n) = true := (fmB_iff (ofN_fm n).1).2 ⟨by have := ofN_len n; omega, ofN_fm n⟩
theorem ofN_zero {n : Int} (h0 : 0 ≤ n) (h1 : n ≤ 18446744073709551615) : (ofN n).length = 0 ↔ n = 0 := by
  have e := ofN_val h0 h1
  constructor
  · intro h
    rw [List.eq_nil_of_length_eq_zero h] at e; simp only [val] at e; omega
  · intro h; subst h
    rw [(ofN_fm 0).zero e]; rfl
theorem makeS_of {n d : Int} (h0 : 0 ≤ d) (h1 : d ≤ 18446744073709551615) : makeS (ofN n) (ofN d) = if d = 0 then ([], [], 5) else ((lowS (ofN n) (ofN d)).1, (lowS (ofN n) (ofN d)).2, 0) := by
  unfold makeS
  rw [if_pos ⟨ofN_fmB n, ofN_fmB d⟩]
  by_cases h : d = 0
  · rw [if_pos ((ofN_zero h0 h1).2 h), if_pos h]
  · rw [if_neg (fun e => h ((ofN_zero h0 h1).1 e)), if_neg h]
theorem natL_one : natL 1 = [1] := by
  rw [natL_cons (by omega)]; rw [show (1 : Int) / 4294967296 = 0 by decide, natL_zero]; rfl
def formedR (a b : List Int) : Bool := fmB a && (fmB b && (decide (0 < b.length) && decide (gcdI (val a) (val b) = 1)))
end Go.Proofs.Wk
/- Rules for rows of structs that may only be read, growing slices, and maps with whole numbers as keys. -/
namespace Go.Proofs.Wk
open Go.RowKit
set_option linter.unusedVariables false
set_option linter.unusedSimpArgs false
/-- An element's cells are enc's, and what held says of it holds. -/
def RR {α : Type} (enc : α → List Value) (held : α → World → Prop) (W : World) (x : α) (cs : List Value) : Prop := cs = enc x ∧ held x W
/-- The rows at an address. -/
class RowsAt (G : List (World → Prop)) (A : Option Addr) (α : outParam Type) (enc : outParam (α → List Value)) (held : outParam (α → World → Prop)) (sz : outParam Nat) (l : outParam (List α)) (c : outParam Nat) : Prop where
  h : ∀ w, All G w → Rows (RR enc held) sz l A c w
instance {G : List (World → Prop)} {A : Option Addr} {α : Type} {enc : α → List Value} {held : α → World → Prop} {sz : Nat} {l : List α} {c : Nat} {φ : World → Prop} [i : RowsAt G A α enc held sz l c] : RowsAt (φ :: G) A α enc held sz l c := ⟨fun w h => i.h w (allTail h)⟩
instance {G : List (World → Prop)} {A : Option Addr} {α : Type} {enc : α → List Value} {held : α → World → Prop} {sz : Nat} {l : List α} {c : Nat} : RowsAt (Rows (RR enc held) sz l A c :: G) A α enc held sz l c := ⟨fun w h => fact0 h⟩
theorem Rows.at {α : Type} {enc : α → List Value} {held : α → World → Prop} {sz : Nat} {l : List α} {ad : Addr} {c : Nat} {W : World} (h : Rows (RR enc held) sz l (some ad) c W) {i : Nat} {x : α} (hi : l[i]? = some x) : (enc x).length = sz ∧ held x W ∧ ∀ j u, (enc x)[j]? = some u → W.cell? (ad.add (i * sz + j)) = some u := by
  obtain ⟨ad', cs, e, hl, ⟨rfl, hh⟩, hc⟩ := h.2.2 i x hi
  cases e
  exact ⟨hl, hh, hc⟩
theorem add_add (a : Addr) (m n : Nat) : (a.add m).add n = a.add (m + n) := by
  unfold Go.Addr.add
  by_cases hm : m = 0
  · subst hm; simp
  · by_cases hn : n = 0
    · subst hn; simp [hm]
    · rw [if_neg hm, if_neg hn, if_neg (by omega)]; simp [Nat.add_assoc]
def aggB (P : Program) (u : TypeId) (n : Nat) : Bool := match P.underlying u with
  | some (.struct _) => (match P.info? u with | some f => Nat.beq f.size n | none => false)
  | some (.array _ _) => (match P.info? u with | some f => Nat.beq f.size n | none => false)
  | _ => false
section
variable {P : Program} {w0 : World} {M O : Nat → Prop} {n : Nat} {K : Slots} {L : List Blk} {G : List (World → Prop)} {Q : Exit → Act → World → Prop} {ops : Array Oper} {rest : List Oper} {w : World} {a : Act} {X : Act → World → Prop}
  {d : Nat} {ty : TypeId} {pos : String} {af : Array Edge} {gd : Option (Nat × Bool)} {N : Act → World → Prop} {S : World → Prop} {α : Type} {D : Nat → Prop} {fuel : Nat} {l : Array Bool}
theorem loadA_run {x : Operand} {A : Addr} {u : TypeId} {cs : List Value} (hx : ev K x = some (.pointer (some A))) (ha : Sat n K a) (hu : aggB P u cs.length = true) (hc : ∀ j v, cs[j]? = some v → w.cell? (A.add j) = some v) {dd : Option Tmp} :
    (execOp a.eval ⟨dd, .load u x, ty, pos, af, gd⟩).run P w = .ok (.value (.agg cs.toArray)) w := by
  have h3 := run_loadCells_list (P := P) (w := w) A cs hc
  unfold aggB at hu
  split at hu
  next e =>
    split at hu
    next f hf =>
      have hs : f.size = cs.length := Nat.eq_of_beq_eq_true hu
      simp [execOp, ha.eval hx, Instr.loadAt, Instr.sureAddr, loadVar, isAgg, underlying, e, sizeOf, typeInfo, hf, hs, h3]
    next => cases hu
  next e =>
    split at hu
    next f hf =>
      have hs : f.size = cs.length := Nat.eq_of_beq_eq_true hu
      simp [execOp, ha.eval hx, Instr.loadAt, Instr.sureAddr, loadVar, isAgg, underlying, e, sizeOf, typeInfo, hf, hs, h3]
    next => cases hu
  next => cases hu
theorem Pw.loadA {x : Operand} {A : Addr} {u : TypeId} {cs : List Value} (hx : ev K x = some (.pointer (some A))) (hu : aggB P u cs.length = true) (hc : ∀ w, St w0 M O L G w → ∀ j v, cs[j]? = some v → w.cell? (A.add j) = some v)
    (hw : wantB K ops gd = some true) (hn : Nat.blt d n = true) (h : Pw w0 M O n ((d, .agg cs.toArray) :: K) L G N) : Pw w0 M O n K L G (OpG P ops ⟨some d, .load u x, ty, pos, af, gd⟩ N Q) :=
  Pw.stepE hw rfl hn fun a w ha hs => ⟨_, _, _, w, loadA_run hx ha hu (hc w hs), hs, h⟩
theorem Pw.more {φ : World → Prop} (hφ : ∀ w, All G w → φ w) (h : Pw w0 M O n K L (φ :: G) X) : Pw w0 M O n K L G X := Pw.facts (fun w k => allCons (hφ w k) k) h
/-- An element of a row of structs. -/
theorem Pw.loadR {x : Operand} {ad : Addr} {u : TypeId} {sz sz' : Nat} {i : Int} {enc : α → List Value} {held : α → World → Prop} {l : List α} {c : Nat} (y : α) (hx : ev K x = some (.pointer (some (ad.add (i.toNat * sz))))) (hr : RowsAt G (some ad) α enc held sz' l c) (hsz : sz = sz') (hi : l[i.toNat]? = some y) (hu : aggB P u (enc y).length = true)
    (hw : wantB K ops gd = some true) (hn : Nat.blt d n = true) (h : Pw w0 M O n ((d, .agg (enc y).toArray) :: K) L (held y :: G) N) : Pw w0 M O n K L G (OpG P ops ⟨some d, .load u x, ty, pos, af, gd⟩ N Q) := by
  subst hsz
  exact Pw.more (fun w k => ((hr.h w k).at hi).2.1) (Pw.loadA hx hu (fun w hs j v hj => by
    rw [add_add]
    exact ((hr.h w (allTail hs.all)).at hi).2.2 j v hj) hw hn h)
theorem fieldS_run {s : TypeId} {x : Operand} {i : Nat} {A : Addr} {fs : Array Field} {f : Field} {t : TypeInfo} (hs : P.underlying s = some (.struct fs)) (hf : fs[i]? = some f) (hi : P.info? f.type = some t) (h0 : Nat.beq t.size 0 = false) (hx : ev K x = some (.pointer (some A))) (ha : Sat n K a) {dd : Option Tmp} :
    (execOp a.eval ⟨dd, .fieldAddr s x i, ty, pos, af, gd⟩).run P w = .ok (.value (.pointer (some (A.add f.offset)))) w := by
  have hz' : t.size ≠ 0 := fun e => by rw [e] at h0; simp at h0
  simp [execOp, Instr.fieldAt, underlying, hs, hf, ha.eval hx, Instr.sureAddr, fieldPlace, sizeOf, typeInfo, hi, hz']
theorem Pw.fieldS {s : TypeId} {x : Operand} {i : Nat} {A : Addr} {fs : Array Field} {f : Field} {t : TypeInfo} (hs : P.underlying s = some (.struct fs)) (hf : fs[i]? = some f) (hi : P.info? f.type = some t) (h0 : Nat.beq t.size 0 = false) (hx : ev K x = some (.pointer (some A)))
    (hw : wantB K ops gd = some true) (hn : Nat.blt d n = true) (h : Pw w0 M O n ((d, .pointer (some (A.add f.offset))) :: K) L G N) : Pw w0 M O n K L G (OpG P ops ⟨some d, .fieldAddr s x i, ty, pos, af, gd⟩ N Q) :=
  Pw.stepE hw rfl hn fun a w ha hs' => ⟨_, _, _, w, fieldS_run hs hf hi h0 hx ha, hs', h⟩
/-- A field of an element of a row of structs. -/
theorem Pw.loadF {x : Operand} {ad : Addr} {u : TypeId} {sz sz' o : Nat} {i : Int} {enc : α → List Value} {held : α → World → Prop} {l : List α} {c : Nat} (y : α) {v : Value} (hx : ev K x = some (.pointer (some ((ad.add (i.toNat * sz)).add o)))) (hr : RowsAt G (some ad) α enc held sz' l c) (hsz : sz = sz') (hi : l[i.toNat]? = some y) (hv : (enc y)[o]? = some v) (hu : plainB P u = true)
    (hw : wantB K ops gd = some true) (hn : Nat.blt d n = true) (h : Pw w0 M O n ((d, v) :: K) L (held y :: G) N) : Pw w0 M O n K L G (OpG P ops ⟨some d, .load u x, ty, pos, af, gd⟩ N Q) := by
  subst hsz
  exact Pw.more (fun w k => ((hr.h w k).at hi).2.1) (Pw.load1 hx hu (fun w hs => by
    rw [add_add]
    exact ((hr.h w (allTail hs.all)).at hi).2.2 o v hv) hw hn h)
/-! ### Growing slices -/
abbrev Gr := Option (Nat × Nat × List Value)
def gv (s : Gr) (m : Nat) : Value := match s with | none => .slice none 0 0 | some (g, cap, _) => .slice (some ⟨g, 0, none⟩) m cap
def gL (s : Gr) (cells : List Value) (e : TypeId) : List Blk := match s with | none => [] | some (g, _, ex) => [⟨g, row (cells ++ ex) e⟩]
def gOk (s : Gr) (cells : List Value) (m sz : Nat) : Prop := match s with | none => m = 0 ∧ cells = [] | some (_, cap, ex) => cells.length = m * sz ∧ m ≤ cap ∧ (cells ++ ex).length = cap * sz
theorem Pw.push {s : Gr} {m : Nat} {cells news : List Value} {L0 : List Blk} {x y : Operand} {t e : TypeId} {i : TypeInfo} {z : Value} {b : Addr} {k c : Nat} (hsv : ev K x = some (gv s m)) (hy : ev K y = some (.slice (some b) k c)) (ht : P.underlying t = some (.slice e)) (hi : P.info? e = some i) (hz : i.zero = some z) (hzs : z.cells.size = i.size) (hL : L = gL s cells e ++ L0)
    (hok : gOk s cells m i.size) (hl : news.length = k * i.size) (hone : ∀ u ∈ news, u.oneCell' = true) (hnews : ∀ w, St w0 M O L G w → ∀ j u, news[j]? = some u → w.cell? (b.add j) = some u) (h0 : 0 < k) (hm : m + k ≤ maxLen) (hb : (m + k) * i.bytes ≤ 140737488355328) (hw : wantB K ops gd = some true) (hn : Nat.blt d n = true)
    (h : ∀ s', gOk s' (cells ++ news) (m + k) i.size → Pw w0 M O n ((d, gv s' (m + k)) :: K) (gL s' (cells ++ news) e ++ L0) G N) :
    Pw w0 M O n K L G (OpG P ops ⟨some d, .call ⟨.builtin .append, #[x, y], #[t, t]⟩, ty, pos, af, gd⟩ N Q) := by
  subst hL
  obtain _ | ⟨g, cap, ex⟩ := s
  · obtain ⟨rfl, rfl⟩ := hok
    simp only [Nat.zero_add, List.nil_append] at h hm hb
    refine Pw.appendNil (news := news) hsv hy ht hi hz hzs hl hnews h0 hm (by omega) hw hn (fun g cap ex h1 h2 => ?_)
    exact h (some (g, cap, ex)) ⟨hl, h1, h2⟩
  · obtain ⟨h1, h2, h3⟩ := hok
    refine Pw.append (olds := cells) (ex := ex) (news := news) (L' := fun g' ex' => gL (some (g', cap, ex')) (cells ++ news) e ++ L0) hsv hy ht hi hz hzs h1 h3 hl hone hnews hm hb (fun g' ex' => .head) hw hn (fun g' cap' ex' h4 h5 => ?_)
    exact h (some (g', cap', ex')) ⟨by rw [List.length_append, h1, hl, Nat.add_mul], h4, h5⟩
instance {G : List (World → Prop)} {g : Nat} {cs cells : List Value} {t e : TypeId} {s : Gr} {L0 : List Blk} [i : Blks L0 G g cs t] : Blks (gL s cells e ++ L0) G g cs t := ⟨fun w hL h => i.h w (fun b hb => hL b (List.mem_append_right _ hb)) h⟩
/-- A growing slice is given away. -/
theorem Pw.freeG {s : Gr} {m sz : Nat} {cells : List Value} {L0 : List Blk} {e : TypeId} (hok : gOk s cells m sz) (h : ∀ A c, gv s m = .slice A m c → m ≤ c → Pw w0 M O n K L0 ((fun W => ∀ j u, cells[j]? = some u → ∃ ad, A = some ad ∧ W.cell? (ad.add j) = some u) :: G) X) : Pw w0 M O n K (gL s cells e ++ L0) G X := by
  obtain _ | ⟨g, cap, ex⟩ := s
  · obtain ⟨rfl, rfl⟩ := hok
    exact Pw.more (fun w _ j u hu => by simp at hu) (h none 0 rfl (Nat.le_refl _))
  · obtain ⟨h1, h2, h3⟩ := hok
    refine freeHead (Pw.facts (fun w k => allCons (fun j u hu => ⟨⟨g, 0, none⟩, rfl, ?_⟩) (allTail k)) (h (some ⟨g, 0, none⟩) cap rfl h2))
    rw [add_none, Nat.zero_add, cell_of_blk (fact0 k), List.getElem?_append_left (List.getElem?_eq_some_iff.1 hu).1]
    exact hu
theorem ints_of_cells {k : IntKind} {l : List Int} {A : Option Addr} {c : Nat} {W : World} (hc : l.length ≤ c) (hm : l.length ≤ maxLen) (h : ∀ j u, (l.map (Value.int k))[j]? = some u → ∃ ad, A = some ad ∧ W.cell? (ad.add j) = some u) : Ints k l A c W := by
  refine ⟨hc, hm, fun j x hx => ?_⟩
  obtain ⟨ad, e, hcell⟩ := h j (.int k x) (by rw [List.getElem?_map, hx]; rfl)
  refine ⟨ad, [.int k x], e, rfl, rfl, fun i u hu => ?_⟩
  have hi : i = 0 := by
    have := (List.getElem?_eq_some_iff.1 hu).1
    simp at this; omega
  subst hi
  rw [Nat.mul_one, Nat.add_zero, hcell]; simpa using hu
/-! ### Maps with whole numbers as keys -/
def ents : List (Int × Value) → Nat → List MapEntry
  | [], _ => []
  | (k, v) :: r, i => ⟨.int .i64 k, v, i⟩ :: ents r (i + 1)
def mapO (m : List (Int × Value)) : Obj := .map (ents m 0).toArray m.length
def lkp (k : Int) : List (Int × Value) → Nat → Option (Nat × Value)
  | [], _ => none
  | (a, v) :: r, i => if k = a then some (i, v) else lkp k r (i + 1)
theorem ents_snoc : ∀ (m : List (Int × Value)) (i : Nat) (k : Int) (v : Value), ents (m ++ [(k, v)]) i = ents m i ++ [⟨.int .i64 k, v, i + m.length⟩]
  | [], i, k, v => by simp [ents]
  | (k', v') :: r, i, k, v => by
    rw [List.cons_append]
    unfold ents
    rw [ents_snoc r (i + 1) k v]
    simp only [List.length_cons, List.cons_append]
    rw [show i + 1 + r.length = i + (r.length + 1) by omega]
theorem findNow_ents (k : Int) : ∀ (m : List (Int × Value)) (i : Nat) (j : Nat), Instr.findNow (.int .i64) (.int .i64 k) (ents m j) i = some (lkp k m i)
  | [], i, j => rfl
  | (a, v) :: r, i, j => by
    unfold ents lkp Instr.findNow
    by_cases h : k = a
    · subst h; simp [Instr.sameNow]
    · have hb : (k == a) = false := by simpa using h
      simp [Instr.sameNow, hb, h, findNow_ents k r (i + 1) (j + 1)]
theorem lkp_none {k : Int} : ∀ {m : List (Int × Value)} {i : Nat}, (∀ p ∈ m, p.1 ≠ k) → lkp k m i = none
  | [], i, h => rfl
  | (a, v) :: r, i, h => by
    unfold lkp
    rw [if_neg (fun e => h (a, v) (List.mem_cons_self ..) e.symm)]
    exact lkp_none (fun p hp => h p (List.mem_cons_of_mem _ hp))
/-- What the map answers. -/
def mval (k : Int) (m : List (Int × Value)) (z : Value) : Value := match lkp k m 0 with | some (_, v) => v | none => z
def setM (ks : List Int) : List (Int × Value) := ks.map fun k => (k, .bool true)
theorem lkp_set (k : Int) : ∀ (ks : List Int) (i : Nat), (match lkp k (setM ks) i with | some (_, v) => v | none => .bool false) = Value.bool (decide (k ∈ ks))
  | [], i => by simp [setM, lkp]
  | a :: r, i => by
    show (match lkp k ((a, .bool true) :: setM r) i with | some (_, v) => v | none => .bool false) = _
    unfold lkp
    by_cases h : k = a
    · rw [if_pos h]; simp [h]
    · rw [if_neg h, lkp_set k r (i + 1)]; simp [h]
theorem mval_set (k : Int) (ks : List Int) : mval k (setM ks) (.bool false) = .bool (decide (k ∈ ks)) := lkp_set k ks 0
theorem setM_snoc (ks : List Int) (k : Int) : setM ks ++ [(k, .bool true)] = setM (ks ++ [k]) := by simp [setM]
theorem Pw.makeMap {t : TypeId} (hw : wantB K ops gd = some true) (hn : Nat.blt d n = true) (h : ∀ g, Pw w0 M O n ((d, .map (some g)) :: K) (⟨g, mapO []⟩ :: L) G N) :
    Pw w0 M O n K L G (OpG P ops ⟨some d, .makeMap t none, ty, pos, af, gd⟩ N Q) :=
  Pw.stepE hw rfl hn fun a w ha hs => ⟨_, _, _, w.alloc (mapO []), by simp [execOp, Instr.makeMap, newObj, mapO, ents]; rfl, hs.new _, h _⟩
theorem lookup_run {t kt et : TypeId} {g : Nat} {k : Int} {m : List (Int × Value)} {i : TypeInfo} {z : Value} (ht : P.underlying t = some (.map kt et)) (hk : P.underlying kt = some (.int .i64)) (hi : P.info? et = some i) (hz : i.zero = some z) (hb : w.heap[g]? = some (mapO m)) :
    (Instr.lookup t (.map (some g)) (.int .i64 k) false).run P w = .ok (mval k m z) w := by
  have h1 := MapKept.run_getObj_map (P := P) hb
  have h2 := MapKept.run_checkKey (P := P) (w := w) (d := .int .i64) (k := .int .i64 k) hk (by simp [MapKept.IsKey]) (ents m 0).toArray.isEmpty 9999
  have h3 := MapKept.run_findKey (P := P) (w := w) hk (findNow_ents k m 0 0)
  unfold Instr.lookup
  simp only [Sem.run_bind, h1, run_underlying ht, Result.andThen_ok, Result.andThen, h2, h3, Sem.run_pure]
  unfold mval
  cases e : lkp k m 0 with
  | none => simp [zeroValue, typeInfo, hi, hz]
  | some p => obtain ⟨j, v⟩ := p; simp
theorem Pw.lookup {t kt et : TypeId} {x ix : Operand} {g : Nat} {k : Int} {m : List (Int × Value)} {i : TypeInfo} {z : Value} (hx : ev K x = some (.map (some g))) (hix : ev K ix = some (.int .i64 k)) (ht : P.underlying t = some (.map kt et)) (hk : P.underlying kt = some (.int .i64)) (hi : P.info? et = some i) (hz : i.zero = some z) (hm : (⟨g, mapO m⟩ : Blk) ∈ L)
    (hw : wantB K ops gd = some true) (hn : Nat.blt d n = true) (h : Pw w0 M O n ((d, mval k m z) :: K) L G N) : Pw w0 M O n K L G (OpG P ops ⟨some d, .lookup t x ix false, ty, pos, af, gd⟩ N Q) :=
  Pw.stepE hw rfl hn fun a w ha hs => ⟨_, _, _, w, by simp [execOp, ha.eval hx, ha.eval hix, lookup_run ht hk hi hz (hs.own _ hm)], hs, h⟩
theorem mapNew_run {t kt et : TypeId} {g : Nat} {k : Int} {v : Value} {m : List (Int × Value)} (ht : P.underlying t = some (.map kt et)) (hk : P.underlying kt = some (.int .i64)) (hb : w.heap[g]? = some (mapO m)) (habs : ∀ p ∈ m, p.1 ≠ k) :
    (Instr.mapUpdate t (.map (some g)) (.int .i64 k) v).run P w = .ok () { w with heap := w.heap.setIfInBounds g (mapO (m ++ [(k, v)])) } := by
  have h1 := MapKept.run_getObj_map (P := P) hb
  have h2 := MapKept.run_checkKey (P := P) (w := w) (d := .int .i64) (k := .int .i64 k) hk (by simp [MapKept.IsKey]) false 9999
  have h3 := MapKept.run_findKey (P := P) (w := w) hk (findNow_ents k m 0 0)
  rw [lkp_none habs] at h3
  have h4 := MapKept.run_setObj_map (P := P) (mapO (m ++ [(k, v)])) hb
  have e : mapO (m ++ [(k, v)]) = .map ((ents m 0).toArray.push ⟨.int .i64 k, v, m.length⟩) (m.length + 1) := by
    unfold mapO; rw [ents_snoc]; simp
  rw [e] at h4
  unfold Instr.mapUpdate
  simp only [Sem.run_bind, h1, run_underlying ht, Result.andThen_ok, h2, h3, h4, e]
theorem Pw.mapNew {t kt et : TypeId} {x ix y : Operand} {g : Nat} {k : Int} {v : Value} {m : List (Int × Value)} {L' : List Blk} (hx : ev K x = some (.map (some g))) (hix : ev K ix = some (.int .i64 k)) (hy : ev K y = some v) (ht : P.underlying t = some (.map kt et)) (hk : P.underlying kt = some (.int .i64)) (habs : ∀ p ∈ m, p.1 ≠ k) (hu : Upd L ⟨g, mapO m⟩ (mapO (m ++ [(k, v)])) L')
    (hw : wantB K ops gd = some true) (h : Pw w0 M O n K L' G N) : Pw w0 M O n K L G (OpG P ops ⟨none, .mapUpdate t x ix y, ty, pos, af, gd⟩ N Q) :=
  Pw.stepU hw rfl fun a w ha hs => by
    have hb := hs.own _ hu.mem
    obtain ⟨s1, s2⟩ := MapKept.heap_set (o' := mapO (m ++ [(k, v)])) hb
    exact ⟨L', G, { w with heap := w.heap.setIfInBounds g (mapO (m ++ [(k, v)])) }, by simp [execOp, ha.eval hx, ha.eval hix, ha.eval hy, mapNew_run ht hk hb habs], hs.turn hu ⟨rfl, rfl, rfl, by simp, fun b _ hn => s2 b hn, Nat.le_refl _⟩ s1, h⟩
/-! ### Literals of structs -/
theorem build13_run {t e : TypeId} {v a1 a2 a3 z1 z2 z3 : Value} {f : TypeInfo} {z : Value} (ht : P.underlying t = some (.slice e)) (hf : P.info? e = some f) (h1 : f.size = 3) (hz : f.zero = some z) (hzc : z.cells = #[z1, z2, z3]) (hv : v.cells = #[a1, a2, a3]) (w : World) :
    (Instr.buildSlice t 1 #[(0, v)]).run P w = .ok (.slice (some ⟨w.heap.size, 0, none⟩) 1 1) (w.alloc (row [a1, a2, a3] e)) := by
  simp [Instr.buildSlice, underlying, ht, sizeOf, typeInfo, hf, h1, zeroValue, hz, hzc, Instr.fill, hv, newRow, show Array.range 3 = #[0, 1, 2] by decide]
theorem Pw.lit13 {t e : TypeId} {x : Operand} {v a1 a2 a3 z1 z2 z3 : Value} {f : TypeInfo} {z : Value} (hx : ev K x = some v) (ht : P.underlying t = some (.slice e)) (hf : P.info? e = some f) (h1 : f.size = 3) (hz : f.zero = some z) (hzc : z.cells = #[z1, z2, z3]) (hv : v.cells = #[a1, a2, a3]) (hw : wantB K ops gd = some true) (hn : Nat.blt d n = true)
    (h : ∀ g, Pw w0 M O n ((d, .slice (some ⟨g, 0, none⟩) 1 1) :: K) (⟨g, row [a1, a2, a3] e⟩ :: L) G N) : Pw w0 M O n K L G (OpG P ops ⟨some d, .buildSlice t 1 #[(0, x)], ty, pos, af, gd⟩ N Q) :=
  Pw.stepE hw rfl hn fun a w ha hs => ⟨_, _, _, _, by have := build13_run (P := P) ht hf h1 hz hzc hv w; simp [execOp, ha.eval hx, this], hs.new _, h _⟩
/-! ### Rows of structs out of cells -/
theorem flat_get {enc : α → List Value} {sz : Nat} : ∀ {l : List α} {j i : Nat} {x : α} {u : Value}, (∀ y ∈ l, (enc y).length = sz) → l[j]? = some x → (enc x)[i]? = some u → (l.flatMap enc)[j * sz + i]? = some u
  | [], j, i, x, u, _, hx, _ => by simp at hx
  | y :: r, 0, i, x, u, hs, hx, hu => by
    simp at hx; subst hx
    rw [List.flatMap_cons, Nat.zero_mul, Nat.zero_add, List.getElem?_append_left (List.getElem?_eq_some_iff.1 hu).1]; exact hu
  | y :: r, j + 1, i, x, u, hs, hx, hu => by
    have h0 := hs y (List.mem_cons_self ..)
    rw [List.flatMap_cons, List.getElem?_append_right (by rw [h0, Nat.add_mul]; omega), h0, show (j + 1) * sz + i - sz = j * sz + i by rw [Nat.add_mul]; omega]
    exact flat_get (fun z hz => hs z (List.mem_cons_of_mem _ hz)) (by simpa using hx) hu
theorem rows_of_cells {enc : α → List Value} {held : α → World → Prop} {sz : Nat} {l : List α} {A : Option Addr} {c : Nat} {W : World} (hs : ∀ y ∈ l, (enc y).length = sz) (hh : ∀ y ∈ l, held y W) (hc : l.length ≤ c) (hm : l.length ≤ maxLen) (h0 : 0 < sz) (h : ∀ j u, (l.flatMap enc)[j]? = some u → ∃ ad, A = some ad ∧ W.cell? (ad.add j) = some u) : Rows (RR enc held) sz l A c W := by
  refine ⟨hc, hm, fun j x hx => ?_⟩
  have hxm := List.mem_of_getElem? hx
  have hxs := hs x hxm
  obtain ⟨ad, e, _⟩ := h (j * sz + 0) (enc x)[0] (flat_get hs hx (List.getElem?_eq_getElem (by omega)))
  refine ⟨ad, enc x, e, hxs, ⟨rfl, hh x hxm⟩, fun i u hu => ?_⟩
  obtain ⟨ad', e', hc'⟩ := h (j * sz + i) u (flat_get hs hx hu)
  rw [e] at e'; cases e'; exact hc'
theorem rows_of_row {enc : α → List Value} {held : α → World → Prop} {sz : Nat} {l : List α} {g c : Nat} {t : TypeId} {ex : List Value} {W : World} (h : W.heap[g]? = some (row (l.flatMap enc ++ ex) t)) (hs : ∀ y ∈ l, (enc y).length = sz) (hh : ∀ y ∈ l, held y W) (hc : l.length ≤ c) (hm : l.length ≤ maxLen) (h0 : 0 < sz) : Rows (RR enc held) sz l (some ⟨g, 0, none⟩) c W :=
  rows_of_cells hs hh hc hm h0 fun j u hu => ⟨_, rfl, by rw [add_none, Nat.zero_add, cell_of_blk h, List.getElem?_append_left (List.getElem?_eq_some_iff.1 hu).1]; exact hu⟩
/-! ### Windows of rows -/
theorem Rows.cap {R : World → α → List Value → Prop} {sz : Nat} {l : List α} {A : Option Addr} {c c' : Nat} {W : World} (h : Rows R sz l A c W) (hc : l.length ≤ c') : Rows R sz l A c' W := ⟨hc, h.2⟩
/-! ### min and max -/
theorem Pw.bmin {x y : Operand} {ts : Array TypeId} {k k' : IntKind} {u v : Int} (hx : ev K x = some (.int k u)) (hy : ev K y = some (.int k' v)) (hw : wantB K ops gd = some true) (hn : Nat.blt d n = true) (h : Pw w0 M O n ((d, .int k (if v < u then v else u)) :: K) L G N) :
    Pw w0 M O n K L G (OpG P ops ⟨some d, .call ⟨.builtin .min, #[x, y], ts⟩, ty, pos, af, gd⟩ N Q) :=
  Pw.stepE hw rfl hn fun a w ha hs => ⟨_, _, _, w, by simp [execOp, resolve, invoke, builtin, Builtin.min_, Builtin.min2, ha.eval hx, ha.eval hy], hs, h⟩
theorem Pw.bmax {x y : Operand} {ts : Array TypeId} {k k' : IntKind} {u v : Int} (hx : ev K x = some (.int k u)) (hy : ev K y = some (.int k' v)) (hw : wantB K ops gd = some true) (hn : Nat.blt d n = true) (h : Pw w0 M O n ((d, .int k (if v > u then v else u)) :: K) L G N) :
    Pw w0 M O n K L G (OpG P ops ⟨some d, .call ⟨.builtin .max, #[x, y], ts⟩, ty, pos, af, gd⟩ N Q) :=
  Pw.stepE hw rfl hn fun a w ha hs => ⟨_, _, _, w, by simp [execOp, resolve, invoke, builtin, Builtin.max_, Builtin.max2, ha.eval hx, ha.eval hy], hs, h⟩
end
/-! ### Searching -/
def ixI {α : Type} (p : α → Bool) : List α → Int
  | [] => -1
  | x :: r => if p x = true then 0 else if ixI p r < 0 then -1 else ixI p r + 1
theorem ixI_hit {α : Type} {p : α → Bool} : ∀ {l : List α} {i : Nat} {x : α}, l[i]? = some x → p x = true → (∀ j, j < i → ∀ y, l[j]? = some y → p y = false) → ixI p l = i
  | [], i, x, hi, _, _ => by simp at hi
  | y :: r, 0, x, hi, hp, _ => by simp at hi; subst hi; unfold ixI; rw [if_pos hp]; rfl
  | y :: r, i + 1, x, hi, hp, hj => by
    have h0 := hj 0 (by omega) y rfl
    have := ixI_hit (l := r) (i := i) (x := x) (by simpa using hi) hp (fun j hj' z hz => hj (j + 1) (by omega) z (by simpa using hz))
    unfold ixI
    rw [if_neg (by rw [h0]; simp), this, if_neg (by omega)]; omega
theorem ixI_none {α : Type} {p : α → Bool} : ∀ {l : List α}, (∀ (j : Nat) (y : α), l[j]? = some y → p y = false) → ixI p l = -1
  | [], _ => rfl
  | x :: r, h => by
    have h0 := h 0 x rfl
    have := ixI_none (l := r) (fun j y hy => h (j + 1) y (by simpa using hy))
    unfold ixI
    rw [if_neg (by rw [h0]; simp), this]; rfl
theorem ixI_cases {α : Type} (p : α → Bool) : ∀ l : List α, (ixI p l = -1 ∧ l.find? p = none) ∨ ∃ (i : Nat) (x : α), ixI p l = i ∧ l[i]? = some x ∧ p x = true ∧ l.find? p = some x
  | [] => .inl ⟨rfl, rfl⟩
  | x :: r => by
    by_cases hp : p x = true
    · exact .inr ⟨0, x, by unfold ixI; rw [if_pos hp]; rfl, rfl, hp, by simp [hp]⟩
    · rcases ixI_cases p r with ⟨h1, h2⟩ | ⟨i, y, h1, h2, h3, h4⟩
      · exact .inl ⟨by unfold ixI; rw [if_neg hp, h1]; rfl, by simp [hp]; simpa using h2⟩
      · exact .inr ⟨i + 1, y, by unfold ixI; rw [if_neg hp, h1, if_neg (by omega)]; omega, by simpa using h2, h3, by simp [hp]; exact h4⟩
end Go.Proofs.Wk
/- A range over a function: what a walk owes, and what it gets. -/
namespace Go.Proofs.Wk
open Go.RowKit
set_option linter.unusedVariables false
set_option linter.unusedSimpArgs false
abbrev FR (r : Option Nat) : Fence := { fn := fun _ => True, depth := none, alive := false, round := r }
def noDef (o : Oper) : Bool := match o.op with | .defer _ => false | _ => true
section
variable {P : Program} {ops : Array Oper} {Q : Exit → Act → World → Prop} {N : Act → World → Prop} {o : Oper} {a : Act} {w : World} {r : Option Nat} {m : Nat}
end
class NOut (Q : Exit → Act → World → Prop) : Prop where
  h : ∀ a w, ¬ Q .outgrown a w
instance {Q : Exit → Act → World → Prop} {N : Act → World → Prop} [i : NOut Q] : NOut (Exit.then N Q) := ⟨i.h⟩
instance {Q : Exit → Act → World → Prop} {n : Nat} [i : NOut Q] : NOut (Exit.inBlock n Q) := ⟨i.h⟩
instance : NOut (fun _ _ _ => False) := ⟨fun _ _ h => h⟩
/-- A round's end. -/
def RoundEnd (Y : Act → World → Prop) : Exit → Act → World → Prop
  | .normal, a, w => Y a w
  | _, _, _ => False
instance {Y : Act → World → Prop} : NOut (RoundEnd Y) := ⟨fun _ _ h => h⟩
instance {Y : Act → World → Prop} : NPan (RoundEnd Y) := ⟨fun c a w d v h => h⟩
instance : NPan (fun _ _ _ => False) := ⟨fun c a w d v h => h⟩
section
variable {P : Program} {w0 : World} {M O : Nat → Prop} {n : Nat} {K : Slots} {L : List Blk} {G : List (World → Prop)} {Q : Exit → Act → World → Prop} {ops : Array Oper} {rest : List Oper} {w : World} {a : Act} {X : Act → World → Prop}
  {d : Nat} {ty : TypeId} {pos : String} {af : Array Edge} {gd : Option (Nat × Bool)} {N : Act → World → Prop} {r : Option Nat} {m : Nat}
/-! ### The iterator's side -/
/-- What is known of yield: each call ends in the next state. -/
def Yd (P : Program) (r : Nat) (N : Nat) (enc : Nat → Value) (J : Nat → World → Prop) : Prop :=
  ∀ i w1, i < N → J i w1 → ∀ m, YieldAt (FR none) m P r #[enc i] w1 (fun e w2 => e = .returned (.bool true) ∧ J (i + 1) w2)
def Iter (P : Program) (gf : FuncId) (lb : Array Value) (N : Nat) (enc : Nat → Value) (pre : World → Prop) : Prop :=
  ∀ (r : Nat) (J : Nat → World → Prop) (w : World), Yd P r N enc J → (∀ i w1 w2, J i w1 → Keep (fun _ => False) w1 w2 → J i w2) → (∀ i w1, J i w1 → pre w1) → J 0 w →
    Calls P gf (#[.func (.yield r) #[] #[]] ++ lb) w (fun e w' => (∃ v, e = .returned v) ∧ J N w')
theorem yield_run {x : Operand} {rr : Nat} {az : Array Operand} {ts : Array TypeId} {vs : List Value} (hx : ev K x = some (.func (.yield rr) #[] #[])) (hargs : evs K az.toList = some vs) (ha : Sat n K a) {dd : Option Tmp} {fn : FuncId} {tmps : Array Value} {assign body : Code}
    (hy : (Instr.yield rr vs.toArray).run P w = .ok (.round rr fn tmps assign body) w) :
    (execOp a.eval ⟨dd, .call ⟨.value x, az, ts⟩, ty, pos, af, gd⟩).run P w = .ok (.round rr fn tmps assign body) w := by
  have h1 : az.map a.eval = vs.toArray := by rw [← Array.toList_inj]; simp [evs_map ha hargs]
  simp [execOp, resolve, Deferred.ofValue, invoke, ha.eval hx, h1, hy]
theorem Pw.yield {x : Operand} {rr i NN : Nat} {az : Array Operand} {ts : Array TypeId} {enc : Nat → Value} {J : Nat → World → Prop} {pre : World → Prop} (hY : Yd P rr NN enc J) (hst : ∀ i w1 w2, J i w1 → Keep (fun _ => False) w1 w2 → J i w2) (hpre : ∀ i w1, J i w1 → pre w1) (hi : i < NN) (hJ : J i w0)
    (hx : ev K x = some (.func (.yield rr) #[] #[])) (hargs : evs K az.toList = some [enc i]) (hw : wantB K ops gd = some true) (hn : Nat.blt d n = true)
    (h : ∀ w3, J (i + 1) w3 → Pw w3 (fun _ => False) (fun _ => False) n ((d, .bool true) :: K) [] [pre] (wpListIn (FR none) m P ops Q rest)) :
    Pw w0 (fun _ => False) O n K L G (wpListIn (FR none) m P ops Q (⟨some d, .call ⟨.value x, az, ts⟩, ty, pos, af, gd⟩ :: rest)) := fun a w ha hs => by
  unfold wpListIn
  rw [if_pos (wantB_spec (o := ⟨some d, .call ⟨.value x, az, ts⟩, ty, pos, af, gd⟩) hw ha)]
  refine ⟨fun _ _ => trivial, ?_⟩
  rw [Oper.semAt_plain (FR none) a.eval _ (fun c e => by cases e)]
  obtain ⟨fn, tmps, assign, body, hy, hR⟩ := hY i w hi (hst _ _ _ hJ hs.keep) (m - 1)
  rw [yield_run hx hargs ha hy, Oper.uponIn_round]
  refine ⟨fun e => absurd e (by simp), hR.mono ?_⟩
  rintro e w3 ⟨rfl, hJ3⟩
  exact h w3 hJ3 _ w3 (ha.put hn _) ⟨Keep.refl _ _, by simp, List.Pairwise.nil, by simp, by simp, fun b e => e.elim, fun φ hφ w' k => by
    rw [List.mem_singleton.1 hφ]
    exact hpre _ _ (hst _ _ _ hJ3 (k.mono fun b _ e => e.elim id (fun ⟨x, hx, _⟩ => by cases hx)))⟩
theorem Iter.start {gf : FuncId} {fn : Func} {c : Code} {lb : Array Value} {NN : Nat} {enc : Nat → Value} {pre : World → Prop} {n : Nat} (hf : P.funcs[gf]? = some fn) (hb : fn.body = some c) (K : Nat → Slots)
    (hn : ∀ r, (#[Value.func (.yield r) #[] #[]] ++ lb).size + (fn.ntmps - (#[Value.func (.yield r) #[] #[]] ++ lb).size) = n)
    (hK : ∀ r d v, lk (K r) d = some v → ((#[Value.func (.yield r) #[] #[]] ++ lb) ++ Array.replicate (fn.ntmps - (#[Value.func (.yield r) #[] #[]] ++ lb).size) undef).getD d undef = v)
    (h : ∀ r J, Yd P r NN enc J → (∀ i w1 w2, J i w1 → Keep (fun _ => False) w1 w2 → J i w2) → (∀ i w1, J i w1 → pre w1) → ∀ w0, J 0 w0 → Pw w0 (fun _ => False) (fun _ => False) n (K r) [] [pre] (c.wp P (bodyPost P fn (fun e w' => (∃ v, e = .returned v) ∧ J NN w')))) :
    Iter P gf lb NN enc pre := fun r J w hY hst hpre h0 =>
  calls_of_wp hf hb (h r J hY hst hpre w h0 _ w ⟨rfl, by have := hn r; simp at this ⊢; omega, hK r⟩ ⟨Keep.refl _ _, by simp, List.Pairwise.nil, by simp, by simp, fun b e => e.elim, fun φ hφ w' k => by
    rw [List.mem_singleton.1 hφ]
    exact hpre _ _ (hst _ _ _ h0 (k.mono fun b _ e => e.elim id (fun ⟨x, hx, _⟩ => by cases hx)))⟩)

/-! ### The caller's side -/
theorem Upd.append {L L' T : List Blk} {b : Blk} {o : Obj} (h : Upd L b o L') : Upd (L ++ T) b o (L' ++ T) := by
  induction h with
  | head => exact .head
  | tail _ ih => exact .tail ih
theorem Upd.behind {T T' : List Blk} {b : Blk} {o : Obj} (h : Upd T b o T') : ∀ L : List Blk, Upd (L ++ T) b o (L ++ T')
  | [] => h
  | x :: L => .tail (h.behind L)
/-- What a round begins and ends with. -/
structure Rd where
  L : List Blk
  G : List (World → Prop)
abbrev mark (D : Nat) : Deferred := { target := .collected D, args := #[] }
def shD (D : Nat) (a : Act) : Act := { a with defers := a.defers ++ [mark D] }
end
end Go.Proofs.Wk
/- A range over a function: the statement. -/
namespace Go.Proofs.Wk
open Go.RowKit
set_option linter.unusedVariables false
set_option linter.unusedSimpArgs false
section
variable {P : Program} {w0 : World} {M O : Nat → Prop} {n : Nat} {K : Slots} {L : List Blk} {G : List (World → Prop)} {Q : Exit → Act → World → Prop} {ops : Array Oper} {rest : List Oper} {w : World} {a : Act} {X : Act → World → Prop}
  {d : Nat} {ty : TypeId} {pos : String} {af : Array Edge} {gd : Option (Nat × Bool)} {N : Act → World → Prop} {r : Option Nat} {m : Nat}
end
end Go.Proofs.Wk
/- Functions that hold a range over a function: their end. Functions that hand blocks over. -/
namespace Go.Proofs.Wk
open Go.RowKit
set_option linter.unusedVariables false
set_option linter.unusedSimpArgs false
section
variable {P : Program} {w0 : World} {M O : Nat → Prop} {n : Nat} {K : Slots} {L : List Blk} {G : List (World → Prop)} {Q : Exit → Act → World → Prop} {ops : Array Oper} {rest : List Oper} {w : World} {a : Act} {X : Act → World → Prop}
  {d : Nat} {ty : TypeId} {pos : String} {af : Array Edge} {gd : Option (Nat × Bool)} {N : Act → World → Prop} {α : Type} {D : Nat → Prop}
theorem shD_put (D : Nat) (a : Act) (dst : Option Tmp) (v : Value) : (shD D a).put dst v = shD D (a.put dst v) := by cases dst <;> rfl
theorem list_sh (D : Nat) {Q' : Exit → Act → World → Prop} (hq : ∀ e a w, Q' e a w → Q e (shD D a) w) : ∀ (l : List Oper) (a : Act) (w : World), l.all noDef = true → wpList P ops Q' l a w → wpList P ops Q l (shD D a) w
  | [], a, w, _, h => hq _ _ _ h
  | o :: l, a, w, hl, h => by
    rw [List.all_cons, Bool.and_eq_true] at hl
    unfold wpList at h ⊢
    have hy : yielded ops (shD D a).tmps = yielded ops a.tmps := rfl
    rw [hy]
    split at h
    next hw =>
      rw [if_pos hw]
      rcases h with h | ⟨h1, a0, w1, h2⟩
      · refine .inl ?_
        unfold Oper.wp at h ⊢
        have he : execOp (shD D a).eval o = execOp a.eval o := rfl
        rw [he]
        generalize hres : (execOp a.eval o).run P w = res at h ⊢
        unfold Oper.upon at h ⊢
        split at h
        next => rw [shD_put]; exact list_sh D hq l _ _ hl.2 h
        next => rw [shD_put]; exact list_sh D hq l _ _ hl.2 h
        next d w' =>
          have e1 : ({ shD D a with defers := d :: (shD D a).defers } : Act).put o.dst undef = shD D (({ a with defers := d :: a.defers } : Act).put o.dst undef) := by
            rw [← shD_put]; rfl
          show wpList P ops Q l (({ shD D a with defers := d :: (shD D a).defers } : Act).put o.dst undef) w'
          rw [e1]; exact list_sh D hq l _ _ hl.2 h
        next f args w' =>
          refine Calls.mono h ?_
          intro e w'' h
          cases e with
          | returned v => show wpList P ops Q l ((shD D a).put o.dst v) w''; rw [shD_put]; exact list_sh D hq l _ _ hl.2 h
          | panicked c => exact hq _ _ _ h
          | outgrown => obtain ⟨a0, w1, h⟩ := h; exact ⟨_, _, hq _ _ _ h⟩
        next row args w' =>
          refine Go.Rows.mono h ?_
          intro v w'' h
          rw [shD_put]; exact list_sh D hq l _ _ hl.2 h
        next => exact hq _ _ _ h
        next => exact h
      · exact .inr ⟨h1, _, _, hq _ _ _ h2⟩
    next hw => rw [if_neg hw, shD_put]; exact list_sh D hq l _ _ hl.2 h
theorem Pw.tail {D i : Nat} {l : List Oper} (hl : l.all noDef = true) (h : Pw w0 M O n K L G (wpList P l.toArray (fun e a w => Exit.then (fun a w => Q .ret a w) Q e (shD D a) w) l)) :
    Pw w0 M O n K L G (fun a w => (Code.seq (Code.region i l.toArray false) Code.ret).wp P Q (shD D a) w) := fun a w ha hs => by
  refine wp_seq (wp_region_lit ?_)
  refine list_sh D (fun e a w h => ?_) l a w hl (h a w ha hs)
  cases e with
  | normal => exact wp_ret h
  | _ => exact h
/-! ### The end, the loop's mark being there -/
/-! ### Contracts of functions that hand blocks over -/
def CtPL (D : Nat → Prop) (w : World) (r : α → Value) (p : α → Prop) (bl : α → List Blk) (Ψ : α → World → Prop) (e : Ending) (w' : World) : Prop :=
  ∃ x, e = .returned (r x) ∧ p x ∧ Keep (fun _ => False) w w' ∧ (∀ b ∈ bl x, w.heap.size ≤ b.g ∧ w'.heap[b.g]? = some b.o) ∧ (bl x).Pairwise (fun x y => x.g ≠ y.g) ∧ Cls (fun b => D b ∨ ∃ y ∈ bl x, y.g = b) w' (Ψ x)
def CtL (P : Program) (f : FuncId) (args : Array Value) (pre : World → Prop) (r : α → Value) (p : α → Prop) (bl : α → List Blk) (Ψ : α → World → Prop) : Prop :=
  ∀ D w, (∀ b, D b → b < w.heap.size) → Cls D w pre → Calls P f args w (CtPL D w r p bl Ψ)
theorem CtL.start {f : FuncId} {fn : Func} {c : Code} {args : Array Value} {pre : World → Prop} {r : α → Value} {p : α → Prop} {bl : α → List Blk} {Ψ : α → World → Prop} {n : Nat} {K : Slots} (hf : P.funcs[f]? = some fn) (hb : fn.body = some c) (hn : args.size + (fn.ntmps - args.size) = n)
    (hK : ∀ d v, lk K d = some v → (args ++ Array.replicate (fn.ntmps - args.size) undef).getD d undef = v)
    (h : ∀ D w0, Pw w0 (fun _ => False) D n K [] [pre] (c.wp P (bodyPost P fn (CtPL D w0 r p bl Ψ)))) : CtL P f args pre r p bl Ψ := fun D w hD hp =>
  calls_of_wp hf hb (h D w _ w ⟨rfl, by simpa using hn, hK⟩ ⟨Keep.refl _ _, by simp, List.Pairwise.nil, by simp, by simp, hD, fun φ hφ => by
    rw [List.mem_singleton.1 hφ]
    exact hp.mono fun b _ e => e.elim id (fun ⟨x, hx, _⟩ => by cases hx)⟩)
/-! ### Rounds' ends -/
theorem Pw.eqL {L' : List Blk} (h : L = L') (k : Pw w0 M O n K L' G X) : Pw w0 M O n K L G X := by rw [h]; exact k
end
instance (priority := low) blksAny {L : List Blk} {G : List (World → Prop)} {g : Nat} {cs : List Value} {t : TypeId} [i : Blks [] G g cs t] : Blks L G g cs t := ⟨fun w hL h => i.h w (fun b hb => by cases hb) h⟩
instance {A L : List Blk} {g : Nat} {cs : List Value} {t : TypeId} [i : OwnB L g cs t] : OwnB (A ++ L) g cs t := ⟨List.mem_append_right _ i.h⟩
instance {A L L' : List Blk} {g : Nat} {cs cs' : List Value} {t : TypeId} [i : UpdC L g cs cs' t L'] : UpdC (A ++ L) g cs cs' t (A ++ L') := ⟨i.h.behind A⟩
end Go.Proofs.Wk
/- One rule more: a copy, at elements of several cells. -/
namespace Go.Proofs.Wk
open Go.RowKit
set_option linter.unusedVariables false
set_option linter.unusedSimpArgs false
section
variable {P : Program} {w0 : World} {M O : Nat → Prop} {n : Nat} {K : Slots} {L : List Blk} {G : List (World → Prop)} {Q : Exit → Act → World → Prop} {ops : Array Oper} {rest : List Oper} {w : World} {a : Act} {X : Act → World → Prop}
  {d : Nat} {ty : TypeId} {pos : String} {af : Array Edge} {gd : Option (Nat × Bool)} {N : Act → World → Prop} {S : World → Prop} {α : Type} {D : Nat → Prop}
variable {fuel : Nat} {l : Array Bool}
/-- A field's place in a row of structs. -/
theorem Pw.takeFS {s : TypeId} {x : Operand} {j : Nat} {A : Addr} {fs : Array Field} {f : Field} {t : TypeInfo} (i : Nat) (l' : Array Bool) (ho : ops[i]? = some ⟨some d, .fieldAddr s x j, ty, pos, af, gd⟩) (hs : P.underlying s = some (.struct fs)) (hf : fs[j]? = some f) (hi : P.info? f.type = some t) (h0 : Nat.beq t.size 0 = false) (hx : ev K x = some (.pointer (some A)))
    (hw : wantB K ops gd = some true) (hn : Nat.blt d n = true) (hc : takeB ops l i l' = true) (hQ : NoPan Q) (hS : ∀ w, St w0 M O L G w → S w)
    (h : Pw w0 M O n ((d, .pointer (some (A.add f.offset))) :: K) L G (wpAnyH P .any ops Q S fuel l')) : Pw w0 M O n K L G (wpAnyH P .any ops Q S (fuel + 1) l) :=
  Pw.take i l' ho rfl hn hw hc hQ hS (fun a w ha _ => fieldS_run hs hf hi h0 hx ha) h
theorem Pw.takeLF {x : Operand} {ad : Addr} {u : TypeId} {sz sz' o : Nat} {j : Int} {enc : α → List Value} {held : α → World → Prop} {rs : List α} {c : Nat} {G0 : List (World → Prop)} (y : α) {v : Value} (i : Nat) (l' : Array Bool) (ho : ops[i]? = some ⟨some d, .load u x, ty, pos, af, gd⟩) (hx : ev K x = some (.pointer (some ((ad.add (j.toNat * sz)).add o)))) (hr : RowsAt G0 (some ad) α enc held sz' rs c) (hsz : sz = sz') (hi : rs[j.toNat]? = some y) (hv : (enc y)[o]? = some v) (hu : plainB P u = true)
    (hw : wantB K ops gd = some true) (hn : Nat.blt d n = true) (hc : takeB ops l i l' = true) (hQ : NoPan Q) (hS : ∀ w, St w0 M O L G w → All G0 w)
    (h : Pw w0 M O n ((d, v) :: K) L G (wpAnyH P .any ops Q (All G0) fuel l')) : Pw w0 M O n K L G (wpAnyH P .any ops Q (All G0) (fuel + 1) l) := by
  subst hsz
  exact Pw.take i l' ho rfl hn hw hc hQ hS (fun a w ha hS' => load1_run hx ha hu (by rw [add_add]; exact ((hr.h w hS').at hi).2.2 o v hv)) h
theorem Pw.takeLA {x : Operand} {ad : Addr} {u : TypeId} {sz sz' : Nat} {j : Int} {enc : α → List Value} {held : α → World → Prop} {rs : List α} {c : Nat} {G0 : List (World → Prop)} (y : α) (i : Nat) (l' : Array Bool) (ho : ops[i]? = some ⟨some d, .load u x, ty, pos, af, gd⟩) (hx : ev K x = some (.pointer (some (ad.add (j.toNat * sz))))) (hr : RowsAt G0 (some ad) α enc held sz' rs c) (hsz : sz = sz') (hi : rs[j.toNat]? = some y) (hu : aggB P u (enc y).length = true)
    (hw : wantB K ops gd = some true) (hn : Nat.blt d n = true) (hc : takeB ops l i l' = true) (hQ : NoPan Q) (hS : ∀ w, St w0 M O L G w → All G0 w)
    (h : Pw w0 M O n ((d, .agg (enc y).toArray) :: K) L G (wpAnyH P .any ops Q (All G0) fuel l')) : Pw w0 M O n K L G (wpAnyH P .any ops Q (All G0) (fuel + 1) l) := by
  subst hsz
  exact Pw.take i l' ho rfl hn hw hc hQ hS (fun a w ha hS' => loadA_run hx ha hu (fun q v hq => by rw [add_add]; exact ((hr.h w hS').at hi).2.2 q v hq)) h
end
end Go.Proofs.Wk
/- Rules: structs of numbers are compared. -/
namespace Go.Proofs.Wk
open Go.RowKit
set_option linter.unusedVariables false
set_option linter.unusedSimpArgs false
section
variable {P : Program} {w0 : World} {M O : Nat → Prop} {n : Nat} {K : Slots} {L : List Blk} {G : List (World → Prop)} {Q : Exit → Act → World → Prop} {ops : Array Oper} {rest : List Oper} {w : World} {a : Act} {X : Act → World → Prop}
  {d : Nat} {ty : TypeId} {pos : String} {af : Array Edge} {gd : Option (Nat × Bool)} {N : Act → World → Prop} {S : World → Prop} {α : Type} {D : Nat → Prop} {fuel : Nat} {l : Array Bool}
end
end Go.Proofs.Wk
/- Rules: appending what may be nothing; elements of one cell in a drawn region. -/
namespace Go.Proofs.Wk
open Go.RowKit
set_option linter.unusedVariables false
set_option linter.unusedSimpArgs false
section
variable {P : Program} {w0 : World} {M O : Nat → Prop} {n : Nat} {K : Slots} {L : List Blk} {G : List (World → Prop)} {Q : Exit → Act → World → Prop} {ops : Array Oper} {rest : List Oper} {w : World} {a : Act} {X : Act → World → Prop}
  {d : Nat} {ty : TypeId} {pos : String} {af : Array Edge} {gd : Option (Nat × Bool)} {N : Act → World → Prop} {S : World → Prop} {α : Type} {D : Nat → Prop} {fuel : Nat} {l : Array Bool}
end
end Go.Proofs.Wk
/- Rules: structs within structs of a row; a literal of an element of four cells. -/
namespace Go.Proofs.Wk
open Go.RowKit
set_option linter.unusedVariables false
set_option linter.unusedSimpArgs false
section
variable {P : Program} {w0 : World} {M O : Nat → Prop} {n : Nat} {K : Slots} {L : List Blk} {G : List (World → Prop)} {Q : Exit → Act → World → Prop} {ops : Array Oper} {rest : List Oper} {w : World} {a : Act} {X : Act → World → Prop}
  {d : Nat} {ty : TypeId} {pos : String} {af : Array Edge} {gd : Option (Nat × Bool)} {N : Act → World → Prop} {S : World → Prop} {α : Type} {D : Nat → Prop} {fuel : Nat} {l : Array Bool}
theorem sub_get {l cs : List Value} {o j : Nat} {v : Value} (h : (l.drop o).take cs.length = cs) (hj : cs[j]? = some v) : l[o + j]? = some v := by
  have h1 := (List.getElem?_eq_some_iff.1 hj).1
  rw [← h, List.getElem?_take_of_lt h1, List.getElem?_drop] at hj
  exact hj
theorem Pw.takeLFA {x : Operand} {ad : Addr} {u : TypeId} {sz sz' o : Nat} {j : Int} {enc : α → List Value} {held : α → World → Prop} {rs : List α} {c : Nat} {G0 : List (World → Prop)} (y : α) (cs : List Value) (i : Nat) (l' : Array Bool) (ho : ops[i]? = some ⟨some d, .load u x, ty, pos, af, gd⟩) (hx : ev K x = some (.pointer (some ((ad.add (j.toNat * sz)).add o)))) (hr : RowsAt G0 (some ad) α enc held sz' rs c) (hsz : sz = sz') (hi : rs[j.toNat]? = some y) (hv : ((enc y).drop o).take cs.length = cs) (hu : aggB P u cs.length = true)
    (hw : wantB K ops gd = some true) (hn : Nat.blt d n = true) (hc : takeB ops l i l' = true) (hQ : NoPan Q) (hS : ∀ w, St w0 M O L G w → All G0 w)
    (h : Pw w0 M O n ((d, .agg cs.toArray) :: K) L G (wpAnyH P .any ops Q (All G0) fuel l')) : Pw w0 M O n K L G (wpAnyH P .any ops Q (All G0) (fuel + 1) l) := by
  subst hsz
  exact Pw.take i l' ho rfl hn hw hc hQ hS (fun a w ha hS' => loadA_run hx ha hu (fun q v hq => by
    rw [add_add, add_add]
    have := ((hr.h w hS').at hi).2.2 (o + q) v (sub_get hv hq)
    exact this)) h
theorem build14_run {t e : TypeId} {v a1 a2 a3 a4 z1 z2 z3 z4 : Value} {f : TypeInfo} {z : Value} (ht : P.underlying t = some (.slice e)) (hf : P.info? e = some f) (h1 : f.size = 4) (hz : f.zero = some z) (hzc : z.cells = #[z1, z2, z3, z4]) (hv : v.cells = #[a1, a2, a3, a4]) (w : World) :
    (Instr.buildSlice t 1 #[(0, v)]).run P w = .ok (.slice (some ⟨w.heap.size, 0, none⟩) 1 1) (w.alloc (row [a1, a2, a3, a4] e)) := by
  simp [Instr.buildSlice, underlying, ht, sizeOf, typeInfo, hf, h1, zeroValue, hz, hzc, Instr.fill, hv, newRow, show Array.range 4 = #[0, 1, 2, 3] by decide]
theorem Pw.lit14 {t e : TypeId} {x : Operand} {v a1 a2 a3 a4 z1 z2 z3 z4 : Value} {f : TypeInfo} {z : Value} (hx : ev K x = some v) (ht : P.underlying t = some (.slice e)) (hf : P.info? e = some f) (h1 : f.size = 4) (hz : f.zero = some z) (hzc : z.cells = #[z1, z2, z3, z4]) (hv : v.cells = #[a1, a2, a3, a4]) (hw : wantB K ops gd = some true) (hn : Nat.blt d n = true)
    (h : ∀ g, Pw w0 M O n ((d, .slice (some ⟨g, 0, none⟩) 1 1) :: K) (⟨g, row [a1, a2, a3, a4] e⟩ :: L) G N) : Pw w0 M O n K L G (OpG P ops ⟨some d, .buildSlice t 1 #[(0, x)], ty, pos, af, gd⟩ N Q) :=
  Pw.stepE hw rfl hn fun a w ha hs => ⟨_, _, _, _, by have := build14_run (P := P) ht hf h1 hz hzc hv w; simp [execOp, ha.eval hx, this], hs.new _, h _⟩
end
end Go.Proofs.Wk
/- Rules: maps: an entry set anew; lookups that tell whether there is one; maps that are facts. -/
namespace Go.Proofs.Wk
open Go.RowKit
set_option linter.unusedVariables false
set_option linter.unusedSimpArgs false
section
variable {P : Program} {w0 : World} {M O : Nat → Prop} {n : Nat} {K : Slots} {L : List Blk} {G : List (World → Prop)} {Q : Exit → Act → World → Prop} {ops : Array Oper} {rest : List Oper} {w : World} {a : Act} {X : Act → World → Prop}
  {d : Nat} {ty : TypeId} {pos : String} {af : Array Edge} {gd : Option (Nat × Bool)} {N : Act → World → Prop} {S : World → Prop} {α : Type} {D : Nat → Prop} {fuel : Nat} {l : Array Bool}
theorem lookupOk_run {t kt et : TypeId} {g : Nat} {k : Int} {m : List (Int × Value)} {i : TypeInfo} {z : Value} (ht : P.underlying t = some (.map kt et)) (hk : P.underlying kt = some (.int .i64)) (hi : P.info? et = some i) (hz : i.zero = some z) (hb : w.heap[g]? = some (mapO m)) :
    (Instr.lookup t (.map (some g)) (.int .i64 k) true).run P w = .ok (.tuple #[mval k m z, .bool (lkp k m 0).isSome]) w := by
  have h1 := MapKept.run_getObj_map (P := P) hb
  have h2 := MapKept.run_checkKey (P := P) (w := w) (d := .int .i64) (k := .int .i64 k) hk (by simp [MapKept.IsKey]) (ents m 0).toArray.isEmpty 9999
  have h3 := MapKept.run_findKey (P := P) (w := w) hk (findNow_ents k m 0 0)
  unfold Instr.lookup
  simp only [Sem.run_bind, h1, run_underlying ht, Result.andThen_ok, Result.andThen, h2, h3, Sem.run_pure]
  unfold mval
  cases e : lkp k m 0 with
  | none => simp [zeroValue, typeInfo, hi, hz]
  | some p => obtain ⟨j, v⟩ := p; simp
/-- A map's value, and whether there is one; the map a fact. -/
theorem Pw.lookupOk {t kt et : TypeId} {x ix : Operand} {g : Nat} {k : Int} {m : List (Int × Value)} {i : TypeInfo} {z : Value} (hx : ev K x = some (.map (some g))) (hix : ev K ix = some (.int .i64 k)) (ht : P.underlying t = some (.map kt et)) (hk : P.underlying kt = some (.int .i64)) (hi : P.info? et = some i) (hz : i.zero = some z) (hm : ∀ w, St w0 M O L G w → w.heap[g]? = some (mapO m))
    (hw : wantB K ops gd = some true) (hn : Nat.blt d n = true) (h : Pw w0 M O n ((d, .tuple #[mval k m z, .bool (lkp k m 0).isSome]) :: K) L G N) : Pw w0 M O n K L G (OpG P ops ⟨some d, .lookup t x ix true, ty, pos, af, gd⟩ N Q) :=
  Pw.stepE hw rfl hn fun a w ha hs => ⟨_, _, _, w, by simp [execOp, ha.eval hx, ha.eval hix, lookupOk_run ht hk hi hz (hm w hs)], hs, h⟩
theorem Pw.lookupF {t kt et : TypeId} {x ix : Operand} {g : Nat} {k : Int} {m : List (Int × Value)} {i : TypeInfo} {z : Value} (hx : ev K x = some (.map (some g))) (hix : ev K ix = some (.int .i64 k)) (ht : P.underlying t = some (.map kt et)) (hk : P.underlying kt = some (.int .i64)) (hi : P.info? et = some i) (hz : i.zero = some z) (hm : ∀ w, St w0 M O L G w → w.heap[g]? = some (mapO m))
    (hw : wantB K ops gd = some true) (hn : Nat.blt d n = true) (h : Pw w0 M O n ((d, mval k m z) :: K) L G N) : Pw w0 M O n K L G (OpG P ops ⟨some d, .lookup t x ix false, ty, pos, af, gd⟩ N Q) :=
  Pw.stepE hw rfl hn fun a w ha hs => ⟨_, _, _, w, by simp [execOp, ha.eval hx, ha.eval hix, lookup_run ht hk hi hz (hm w hs)], hs, h⟩
theorem lkp_get {k : Int} : ∀ {m : List (Int × Value)} {i j : Nat} {v : Value}, lkp k m i = some (j, v) → i ≤ j ∧ m[j - i]? = some (k, v)
  | [], i, j, v, h => by cases h
  | (a, u) :: r, i, j, v, h => by
    unfold lkp at h
    split at h
    · rename_i e; subst e; cases h; simp
    · obtain ⟨h1, h2⟩ := lkp_get h
      refine ⟨by omega, ?_⟩
      rw [show j - i = (j - (i + 1)) + 1 by omega, List.getElem?_cons_succ]; exact h2
theorem ents_get : ∀ (m : List (Int × Value)) (i j : Nat), (ents m i)[j]? = (m[j]?).map (fun p => ⟨.int .i64 p.1, p.2, i + j⟩)
  | [], i, j => by simp [ents]
  | (a, u) :: r, i, 0 => by simp [ents]
  | (a, u) :: r, i, j + 1 => by
    unfold ents
    rw [List.getElem?_cons_succ, List.getElem?_cons_succ, ents_get r (i + 1) j]
    congr 1; funext p; rw [show i + 1 + j = i + (j + 1) by omega]
theorem ents_set (m : List (Int × Value)) (j : Nat) (k : Int) (v : Value) : ents (m.set j (k, v)) 0 = (ents m 0).modify j (fun e => { e with key := .int .i64 k, val := v }) := by
  apply List.ext_getElem?
  intro t
  rw [ents_get, List.getElem?_modify, ents_get, List.getElem?_set]
  by_cases e : j = t
  · subst e
    rw [if_pos rfl]
    by_cases h : j < m.length
    · rw [if_pos h, List.getElem?_eq_getElem h]; simp
    · rw [if_neg h, List.getElem?_eq_none (by omega)]; simp
  · rw [if_neg e]
    cases m[t]? with
    | none => simp
    | some p => simp [e]
theorem mapSet_run {t kt et : TypeId} {g j : Nat} {k : Int} {u v : Value} {m : List (Int × Value)} (ht : P.underlying t = some (.map kt et)) (hk : P.underlying kt = some (.int .i64)) (hb : w.heap[g]? = some (mapO m)) (hl : lkp k m 0 = some (j, u)) :
    (Instr.mapUpdate t (.map (some g)) (.int .i64 k) v).run P w = .ok () { w with heap := w.heap.setIfInBounds g (mapO (m.set j (k, v))) } := by
  have h1 := MapKept.run_getObj_map (P := P) hb
  have h2 := MapKept.run_checkKey (P := P) (w := w) (d := .int .i64) (k := .int .i64 k) hk (by simp [MapKept.IsKey]) false 9999
  have h3 := MapKept.run_findKey (P := P) (w := w) hk (findNow_ents k m 0 0)
  rw [hl] at h3
  obtain ⟨_, hg⟩ := lkp_get hl
  rw [Nat.sub_zero] at hg
  have h4 := MapKept.run_setObj_map (P := P) (mapO (m.set j (k, v))) hb
  have e : mapO (m.set j (k, v)) = .map ((ents m 0).toArray.modify j fun e => { e with key := .int .i64 k, val := v }) m.length := by
    unfold mapO; rw [ents_set, List.length_set]; simp
  rw [e] at h4
  have h5 : ((ents m 0).toArray[j]?).map (·.key) = some (.int .i64 k) := by
    rw [List.getElem?_toArray, ents_get, hg]; rfl
  unfold Instr.mapUpdate
  simp only [Sem.run_bind, h1, run_underlying ht, Result.andThen_ok, h2, h3, h5, Option.getD_some, Instr.keyThatStays, Instr.sameBits, beq_self_eq_true, Bool.and_true, if_true, Sem.run_pure, h4, e]
theorem Pw.mapSet {t kt et : TypeId} {x ix y : Operand} {g j : Nat} {k : Int} {u v : Value} {m : List (Int × Value)} {L' : List Blk} (hx : ev K x = some (.map (some g))) (hix : ev K ix = some (.int .i64 k)) (hy : ev K y = some v) (ht : P.underlying t = some (.map kt et)) (hk : P.underlying kt = some (.int .i64)) (hl : lkp k m 0 = some (j, u)) (hu : Upd L ⟨g, mapO m⟩ (mapO (m.set j (k, v))) L')
    (hw : wantB K ops gd = some true) (h : Pw w0 M O n K L' G N) : Pw w0 M O n K L G (OpG P ops ⟨none, .mapUpdate t x ix y, ty, pos, af, gd⟩ N Q) :=
  Pw.stepU hw rfl fun a w ha hs => by
    have hb := hs.own _ hu.mem
    obtain ⟨s1, s2⟩ := MapKept.heap_set (o' := mapO (m.set j (k, v))) hb
    exact ⟨L', G, { w with heap := w.heap.setIfInBounds g (mapO (m.set j (k, v))) }, by simp [execOp, ha.eval hx, ha.eval hix, ha.eval hy, mapSet_run ht hk hb hl], hs.turn hu ⟨rfl, rfl, rfl, by simp, fun b _ hn => s2 b hn, Nat.le_refl _⟩ s1, h⟩
end
end Go.Proofs.Wk
/- Rules: rows of structs of one's own: an element loaded, an element stored, at any place. -/
namespace Go.Proofs.Wk
open Go.RowKit
set_option linter.unusedVariables false
set_option linter.unusedSimpArgs false
theorem putN_here : ∀ {vs old post : List Value}, old.length = vs.length → putN 0 vs (old ++ post) = some (vs ++ post)
  | [], [], post, _ => by cases post <;> rfl
  | [], _ :: _, _, h => by simp at h
  | _ :: _, [], _, h => by simp at h
  | v :: r, o :: old, post, h => by
    rw [List.cons_append, List.cons_append]
    unfold putN
    rw [putN_here (vs := r) (old := old) (by simpa using h)]
section
variable {P : Program} {w0 : World} {M O : Nat → Prop} {n : Nat} {K : Slots} {L : List Blk} {G : List (World → Prop)} {Q : Exit → Act → World → Prop} {ops : Array Oper} {rest : List Oper} {w : World} {a : Act} {X : Act → World → Prop}
  {d : Nat} {ty : TypeId} {pos : String} {af : Array Edge} {gd : Option (Nat × Bool)} {N : Act → World → Prop} {S : World → Prop} {α : Type} {D : Nat → Prop} {fuel : Nat} {l : Array Bool}
end
end Go.Proofs.Wk
/- Rules: a drawn region that reads a block of one's own. -/
namespace Go.Proofs.Wk
open Go.RowKit
set_option linter.unusedVariables false
set_option linter.unusedSimpArgs false
class SufO (L : List Blk) (G G0 : List (World → Prop)) : Prop where
  h : ∀ w, (∀ b ∈ L, w.heap[b.g]? = some b.o) → All G w → All G0 w
instance (priority := low) {L : List Blk} {G G0 : List (World → Prop)} [i : Suf G G0] : SufO L G G0 := ⟨fun w _ h => i.h w h⟩
instance {L : List Blk} {G G0 : List (World → Prop)} {g : Nat} {cs : List Value} {t : TypeId} [i : OwnB L g cs t] [j : SufO L G G0] : SufO L G ((fun W => W.heap[g]? = some (.cells cs.toArray t (0, 0))) :: G0) := ⟨fun w hL h => allCons (hL _ i.h) (j.h w hL h)⟩
theorem so {w0 : World} {M O : Nat → Prop} {L : List Blk} {G G0 : List (World → Prop)} [i : SufO L G G0] : ∀ w, St w0 M O L G w → All G0 w := fun w h => i.h w h.own h.all
section
variable {P : Program} {w0 : World} {M O : Nat → Prop} {n : Nat} {K : Slots} {L : List Blk} {G : List (World → Prop)} {Q : Exit → Act → World → Prop}
theorem Pw.drawnH {g : Nat} {cs : List Value} {t : TypeId} {id : Nat} {l : List Oper} {sz : Nat} {bs : Array Bool} (hb : OwnB L g cs t) (hm : P.follows .mixedOrders = true) (hsz : l.toArray.size = sz) (hbs : Array.replicate sz false = bs) (h : Pw w0 M O n K L G (wpAnyH P .any l.toArray Q (All ((fun W => W.heap[g]? = some (.cells cs.toArray t (0, 0))) :: G)) sz bs)) :
    Pw w0 M O n K L G ((Code.region id l.toArray true).wp P Q) := Pw.drawn (All ((fun W => W.heap[g]? = some (.cells cs.toArray t (0, 0))) :: G)) hm hsz hbs h
theorem Pw.drawnH2 {g g' : Nat} {cs cs' : List Value} {t t' : TypeId} {id : Nat} {l : List Oper} {sz : Nat} {bs : Array Bool} (hb : OwnB L g cs t) (hb' : OwnB L g' cs' t') (hm : P.follows .mixedOrders = true) (hsz : l.toArray.size = sz) (hbs : Array.replicate sz false = bs) (h : Pw w0 M O n K L G (wpAnyH P .any l.toArray Q (All ((fun W => W.heap[g]? = some (.cells cs.toArray t (0, 0))) :: (fun W => W.heap[g']? = some (.cells cs'.toArray t' (0, 0))) :: G)) sz bs)) :
    Pw w0 M O n K L G ((Code.region id l.toArray true).wp P Q) := Pw.drawn (All ((fun W => W.heap[g]? = some (.cells cs.toArray t (0, 0))) :: (fun W => W.heap[g']? = some (.cells cs'.toArray t' (0, 0))) :: G)) hm hsz hbs h
/-- Ways that meet again, whatever comes behind. -/
theorem Pw.joinQ {σ : Type} (J : σ → Prop) (I : σ → Hd) {c : Code} (h1 : Pw w0 M O n K L G (c.wp P (Exit.then (Arr J I w0 M O n) (fun _ _ _ => False)))) (h2 : ∀ s, J s → Pw w0 M O n (I s).K (I s).L (I s).G (Q .normal)) : Pw w0 M O n K L G (c.wp P Q) := fun a w ha hs =>
  Code.wp_mono (fun e a w h => by
    cases e with
    | normal => obtain ⟨s, hJ, h3, h4⟩ := h; exact h2 s hJ a w h3 h4
    | _ => exact h.elim) (h1 a w ha hs)
end
instance npFalse : NPan (fun _ _ _ => False) := ⟨fun _ _ _ _ _ h => h⟩
end Go.Proofs.Wk
/- Contracts of functions that are handed blocks, turn them, and hand blocks back. -/
namespace Go.Proofs.Wk
open Go.RowKit
set_option linter.unusedVariables false
set_option linter.unusedSimpArgs false
def Gs (B : List Blk) (b : Nat) : Prop := ∃ y ∈ B, y.g = b
section
variable {P : Program} {w0 : World} {M O : Nat → Prop} {n : Nat} {K : Slots} {L : List Blk} {G : List (World → Prop)} {Q : Exit → Act → World → Prop} {ops : Array Oper} {w : World} {a : Act}
  {d : Nat} {ty : TypeId} {pos : String} {af : Array Edge} {gd : Option (Nat × Bool)} {N : Act → World → Prop} {α : Type} {D : Nat → Prop}
def CtPB (D : Nat → Prop) (w : World) (B : List Blk) (r : α → Value) (p : α → Prop) (bl : α → List Blk) (Ψ : α → World → Prop) (e : Ending) (w' : World) : Prop :=
  ∃ x, e = .returned (r x) ∧ p x ∧ Keep (Gs B) w w' ∧ (∀ b ∈ bl x, (w.heap.size ≤ b.g ∨ Gs B b.g) ∧ w'.heap[b.g]? = some b.o) ∧ (bl x).Pairwise (fun x y => x.g ≠ y.g) ∧ Cls (fun b => D b ∨ Gs (bl x) b) w' (Ψ x)
/-- B: the blocks handed in; bl: those handed back, turned or new. -/
def CtB (P : Program) (f : FuncId) (args : Array Value) (B : List Blk) (pre : World → Prop) (r : α → Value) (p : α → Prop) (bl : α → List Blk) (Ψ : α → World → Prop) : Prop :=
  ∀ D w, (∀ b, D b → b < w.heap.size) → (∀ b ∈ B, w.heap[b.g]? = some b.o) → B.Pairwise (fun x y => x.g ≠ y.g) → (∀ b ∈ B, ¬ D b.g) → Cls (fun b => D b ∨ Gs B b) w pre → Calls P f args w (CtPB D w B r p bl Ψ)
theorem St.gotB {B L0 : List Blk} (h : St w0 M O (B ++ L0) G w) {w' : World} (k : Keep (Gs B) w w') {C : List Blk} {φ : World → Prop} (hC : ∀ b ∈ C, (w.heap.size ≤ b.g ∨ Gs B b.g) ∧ w'.heap[b.g]? = some b.o) (hnd : C.Pairwise (fun x y => x.g ≠ y.g)) (hφ : Cls (fun b => Dt O L0 b ∨ Gs C b) w' φ) : St w0 M O (C ++ L0) (φ :: G) w' := by
  have hap := List.pairwise_append.1 h.nd
  have hL0 : ∀ y ∈ L0, ¬ Gs B y.g := fun y hy ⟨x, hx, e⟩ => hap.2.2 x hx y hy e
  have hBm : ∀ {x}, x ∈ B → x ∈ B ++ L0 := fun hx => List.mem_append_left _ hx
  have hLm : ∀ {x}, x ∈ L0 → x ∈ B ++ L0 := fun hx => List.mem_append_right _ hx
  have hBO : ∀ b, Gs B b → ¬ O b := fun b ⟨x, hx, e⟩ => e ▸ h.nob x (hBm hx)
  refine ⟨⟨k.os.trans h.keep.os, k.tape.trans h.keep.tape, k.output.trans h.keep.output, Nat.le_trans h.keep.size k.size, fun b hb hM => ?_, Nat.le_trans h.keep.drawn k.drawn⟩, ?_, ?_, ?_, ?_, h.ob, ?_⟩
  · rw [k.block b (Nat.lt_of_lt_of_le hb h.keep.size) ?_, h.keep.block b hb hM]
    rintro ⟨x, hx, rfl⟩
    rcases h.base x (hBm hx) with e | e
    · omega
    · exact hM e
  · intro b hb
    rcases List.mem_append.1 hb with hb | hb
    · exact (hC b hb).2
    · rw [k.block b.g (own_lt (h.own b (hLm hb))) (hL0 b hb)]; exact h.own b (hLm hb)
  · refine List.pairwise_append.2 ⟨hnd, hap.2.1, fun x hx y hy e => ?_⟩
    rcases (hC x hx).1 with h1 | ⟨z, hz, ez⟩
    · have h2 := own_lt (h.own y (hLm hy)); omega
    · exact hap.2.2 z hz y hy (ez.trans e)
  · intro b hb
    rcases List.mem_append.1 hb with hb | hb
    · rcases (hC b hb).1 with h1 | ⟨z, hz, ez⟩
      · exact .inl (Nat.le_trans h.keep.size h1)
      · rw [← ez]; exact h.base z (hBm hz)
    · exact h.base b (hLm hb)
  · intro b hb
    rcases List.mem_append.1 hb with hb | hb
    · rcases (hC b hb).1 with h1 | h1
      · intro e; have h2 := h.ob _ e; have h3 := h.keep.size; omega
      · exact hBO _ h1
    · exact h.nob b (hLm hb)
  · intro ψ hψ
    rcases List.mem_cons.1 hψ with rfl | hψ
    · refine hφ.mono fun b _ e => ?_
      rcases e with e | ⟨x, hx, rfl⟩
      · exact .inl (.inl e)
      · rcases List.mem_append.1 hx with hx | hx
        · exact .inr ⟨x, hx, rfl⟩
        · exact .inl (.inr ⟨x, hx, rfl⟩)
    · intro w'' k'
      refine h.cl ψ hψ w'' ⟨k'.os.trans k.os, k'.tape.trans k.tape, k'.output.trans k.output, Nat.le_trans k.size k'.size, fun b hb hn => ?_, Nat.le_trans k.drawn k'.drawn⟩
      rw [k'.block b (Nat.lt_of_lt_of_le hb k.size) ?_, k.block b hb ?_]
      · rintro ⟨x, hx, rfl⟩
        exact hn (.inr ⟨x, hBm hx, rfl⟩)
      · rintro (e | ⟨x, hx, rfl⟩)
        · exact hn (.inl e)
        · rcases List.mem_append.1 hx with hx | hx
          · rcases (hC x hx).1 with h1 | ⟨z, hz, ez⟩
            · omega
            · exact hn (.inr ⟨z, hBm hz, ez⟩)
          · exact hn (.inr ⟨x, hLm hx, rfl⟩)
theorem Pw.callB {x : Operand} {f : FuncId} {fst cap : Array Value} {as : Array Operand} {ts : Array TypeId} {vs vs' : List Value} {B L0 : List Blk} {pre : World → Prop} {r : α → Value} {p : α → Prop} {bl : α → List Blk} {Ψ : α → World → Prop}
    (hc : CtB P f vs'.toArray B pre r p bl Ψ) (hL : L = B ++ L0) (hx : ev K x = some (.func (.func f) fst cap)) (hargs : evs K as.toList = some vs) (hvs : fst.toList ++ vs ++ cap.toList = vs') (hcal : callB P f = true) (hw : wantB K ops gd = some true) (hn : Nat.blt d n = true) (hpre : ∀ w, All G w → pre w)
    (h : ∀ x, p x → Pw w0 M O n ((d, r x) :: K) (bl x ++ L0) (Ψ x :: G) N) : Pw w0 M O n K L G (OpG P ops ⟨some d, .call ⟨.value x, as, ts⟩, ty, pos, af, gd⟩ N Q) := fun a w ha hs => by
  subst hL
  unfold OpG
  rw [if_pos (wantB_spec (o := ⟨some d, .call ⟨.value x, as, ts⟩, ty, pos, af, gd⟩) hw ha)]
  unfold Oper.wp
  rw [call_run hx hargs hvs hcal ha, Oper.upon_enter]
  have hap := List.pairwise_append.1 hs.nd
  refine (hc (Dt O L0) w (fun b hb => hs.dt b (hb.elim .inl fun ⟨x, hx, e⟩ => .inr ⟨x, List.mem_append_right _ hx, e⟩)) (fun b hb => hs.own b (List.mem_append_left _ hb)) hap.1 (fun b hb e => ?_) ((hs.pre hpre).mono fun b _ e => ?_)).mono ?_
  · rcases e with e | ⟨y, hy, e⟩
    · exact hs.nob b (List.mem_append_left _ hb) e
    · exact hap.2.2 b hb y hy e.symm
  · rcases e with (e | ⟨y, hy, e⟩) | ⟨y, hy, e⟩
    · exact .inl e
    · exact .inr ⟨y, List.mem_append_right _ hy, e⟩
    · exact .inr ⟨y, List.mem_append_left _ hy, e⟩
  · rintro e w' ⟨y, rfl, hp, hk, hB, hnd, hφ⟩
    exact h y hp _ _ (ha.put hn _) (hs.gotB hk hB hnd hφ)
theorem CtB.start {f : FuncId} {fn : Func} {c : Code} {args : Array Value} {B : List Blk} {pre : World → Prop} {r : α → Value} {p : α → Prop} {bl : α → List Blk} {Ψ : α → World → Prop} {n : Nat} {K : Slots} (hf : P.funcs[f]? = some fn) (hb : fn.body = some c) (hn : args.size + (fn.ntmps - args.size) = n)
    (hK : ∀ d v, lk K d = some v → (args ++ Array.replicate (fn.ntmps - args.size) undef).getD d undef = v)
    (h : ∀ D w0, Pw w0 (Gs B) D n K B [pre] (c.wp P (bodyPost P fn (CtPB D w0 B r p bl Ψ)))) : CtB P f args B pre r p bl Ψ := fun D w hD hB hnd hnD hp =>
  calls_of_wp hf hb (h D w _ w ⟨rfl, by simpa using hn, hK⟩ ⟨Keep.refl _ _, hB, hnd, fun b hb => .inr ⟨b, hb, rfl⟩, hnD, hD, fun φ hφ => by
    rw [List.mem_singleton.1 hφ]
    exact hp.mono fun b _ e => e⟩)
theorem Pw.retB {B : List Blk} {fn : Func} {r : α → Value} {p : α → Prop} {bl : α → List Blk} {Ψ : α → World → Prop} {vs : List Value} {x : α} (hsub : (bl x).Sublist L) (hv : Vs P K (St w0 (Gs B) D L G) fn.results.toList vs) (hx : retv vs = r x) (hp : p x) (hΨ : ∀ w, All G w → Ψ x w) :
    Pw w0 (Gs B) D n K L G (bodyPost P fn (CtPB D w0 B r p bl Ψ) .ret) := fun a w ha hs =>
  ⟨ha.defers, _, results_run ha hs hv, x, by rw [hx], hp, hs.keep, fun b hb => ⟨hs.base b (hsub.subset hb), hs.own b (hsub.subset hb)⟩, hs.nd.sublist hsub, (hs.pre hΨ).mono fun b _ e => e.elim .inl fun ⟨y, hy, e⟩ => .inr ⟨y, hsub.subset hy, e⟩⟩
end
end Go.Proofs.Wk
