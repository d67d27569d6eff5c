/- An amount is split as the reference says: the parts and what is left are the whole, and less is left than there are parts. No conditions. -/
import Derived.Test.YtapmhmkekkhhpaaLMoneySplits
namespace Go.Proofs.Ytapmhmkekkhhpaa.Pure
open Go.RowKit Go.Proofs.Ytapmhmkekkhhpaa.PMoneySplits Go.Proofs.YtapmhmkekkhhpaaW.PrintWords Go.Proofs.YtapmhmkekkhhpaaW.PrintLast Go.Proofs.YtapmhmkekkhhpaaW.PrintMore Go.Proofs.Ytapmhmkekkhhpaa.LMoneySplits
set_option linter.unusedSimpArgs false
set_option linter.unusedVariables false

def sumL : List Int → Int
  | [] => 0
  | x :: xs => x + sumL xs
theorem sumL_nonneg : ∀ {l : List Int}, (∀ x ∈ l, U64 x) → 0 ≤ sumL l
  | [], _ => by simp [sumL]
  | x :: xs, h => by have h1 := sumL_nonneg (l := xs) (fun y hy => h y (by simp [hy])); have h2 := (h x (by simp)).1; simp only [sumL]; omega
theorem le_sumL : ∀ {l : List Int}, (∀ x ∈ l, U64 x) → ∀ w ∈ l, w ≤ sumL l
  | [], _, w, hw => by cases hw
  | x :: xs, h, w, hw => by
    have h0 := sumL_nonneg (l := xs) (fun y hy => h y (by simp [hy])); have h2 := (h x (by simp)).1
    simp only [sumL]
    rcases List.mem_cons.1 hw with rfl | hw
    · omega
    · have := le_sumL (l := xs) (fun y hy => h y (by simp [hy])) w hw; omega
theorem drop_at {l : List Int} {i : Nat} (h : i < l.length) : l.drop i = rd l (i : Int) :: l.drop (i + 1) := by
  have d1 := drop_rd (xs := l) (i := (i : Int)) (by omega) (by omega)
  rw [show ((i : Int)).toNat = i by omega, show ((i : Int) + 1).toNat = i + 1 by omega] at d1; exact d1
theorem rd_u64 {l : List Int} (h : ∀ x ∈ l, U64 x) {i : Nat} (hi : i < l.length) : U64 (rd l (i : Int)) := h _ (rd_mem (by omega) (by omega))

/-- The sum, or its error. -/
def sumS (s : Int) : Int × Int := if s ≤ 18446744073709551615 then (s, 0) else (0, 3)
theorem sum_loop {l : List Int} (hl : l.length ≤ 1000) (hw : ∀ x ∈ l, U64 x) : ∀ (d i k : Nat) (s : Int), i + d = l.length → d < k → U64 s →
    money_Sum.l0 k s l (l.length : Int) (i : Int) = some (sumS (s + sumL (l.drop i))) ∧ psephosref03_Sum.l0 k l s (l.length : Int) (i : Int) = some (sumS (s + sumL (l.drop i))) := by
  intro d
  induction d with
  | zero =>
    intro i k s hi hk hs
    obtain ⟨k, rfl⟩ : ∃ m, k = m + 1 := ⟨k - 1, by omega⟩
    have e : sumS (s + sumL (l.drop i)) = (s, 0) := by
      have z : s + sumL (l.drop i) = s := by rw [List.drop_eq_nil_of_le (by omega)]; simp [sumL]
      rw [z]; unfold sumS; rw [if_pos hs.2]
    rw [e]
    constructor
    · simp only [money_Sum.l0]; rw [if_neg (by omega)]
    · simp only [psephosref03_Sum.l0]; rw [if_neg (by omega)]
  | succ d ih =>
    intro i k s hi hk hs
    obtain ⟨k, rfl⟩ : ∃ m, k = m + 1 := ⟨k - 1, by omega⟩
    have hx := rd_u64 hw (show i < l.length by omega)
    have hS := sumL_nonneg (l := l.drop (i + 1)) (fun x hx => hw x (List.mem_of_mem_drop hx))
    obtain ⟨x, hxe⟩ : ∃ x, x = rd l (i : Int) := ⟨_, rfl⟩
    rw [drop_at (by omega), ← hxe]
    rw [← hxe] at hx
    obtain ⟨x0, x1⟩ := hx; obtain ⟨s0, s1⟩ := hs
    simp only [sumL]
    by_cases hc : s + x ≤ 18446744073709551615
    · obtain ⟨i1, i2⟩ := ih (i + 1) k (s + x) (by omega) (by omega) ⟨by omega, hc⟩
      rw [← Int.add_assoc]
      constructor
      · simp only [money_Sum.l0]
        rw [if_pos (by omega), if_pos (by omega), if_pos (by omega), ← hxe, wsucc (by omega), wu (n := s + x) (by omega) hc, if_neg (by omega)]
        exact i1
      · simp only [psephosref03_Sum.l0]
        rw [if_pos (by omega), if_pos (by omega), if_pos (by omega), ← hxe, wsucc (by omega)]
        unfold psephosref03_Add.f
        rw [wu (n := 18446744073709551615 - x) (by omega) (by omega), wu (n := s + x) (by omega) hc, if_neg (by omega), Option.bind_some, if_pos rfl]
        exact i2
    · have e : sumS (s + (x + sumL (l.drop (i + 1)))) = (0, 3) := by unfold sumS; rw [if_neg (by omega)]
      rw [e]
      constructor
      · simp only [money_Sum.l0]
        rw [if_pos (by omega), if_pos (by omega), if_pos (by omega), ← hxe, if_pos (by rw [wu64]; omega)]
      · simp only [psephosref03_Sum.l0]
        rw [if_pos (by omega), if_pos (by omega), if_pos (by omega), ← hxe]
        unfold psephosref03_Add.f
        rw [wu (n := 18446744073709551615 - x) (by omega) (by omega), if_pos (by omega), Option.bind_some, if_neg (by decide)]

/-- The parts. -/
def partsL (x T : Int) (l : List Int) : List Int := l.map (fun w => x * w / T)
theorem part_val {x w T : Int} (hx : U64 x) (hw : U64 w) (hT : 0 < T) (hwT : w ≤ T) : partS x w T = (x * w / T, 0) ∧ U64 (x * w / T) := by
  have h1 := Int.mul_le_mul_of_nonneg_left hwT hx.1
  have h0 := Int.mul_nonneg hx.1 hw.1
  have h2 : x * w / T ≤ x := by
    have := Int.ediv_le_ediv hT h1
    rw [Int.mul_ediv_cancel _ (by omega)] at this; exact this
  have h3 := Int.ediv_nonneg h0 (show 0 ≤ T by omega)
  have h4 := hx.2
  refine ⟨?_, h3, by omega⟩
  unfold partS; rw [if_neg (by omega), if_pos (by omega)]
theorem split_loop {x T : Int} (hx : U64 x) (hT : U64 T) (hT0 : 0 < T) {l : List Int} (hl : l.length ≤ 1000) (hw : ∀ w ∈ l, U64 w) (hwT : ∀ w ∈ l, w ≤ T) : ∀ (d i k : Nat) (a : Int) (out : List Int), i + d = l.length → d + 60001 < k → out.length ≤ i → U64 a →
    money_Split.l0 k x T a out l (l.length : Int) (i : Int) = some (out ++ partsL x T (l.drop i), (a - sumL (partsL x T (l.drop i))) % 18446744073709551616, 0) ∧
    psephosref03_Split.l0 k x l T out a (l.length : Int) (i : Int) = some (out ++ partsL x T (l.drop i), (a - sumL (partsL x T (l.drop i))) % 18446744073709551616, 0) := by
  intro d
  induction d with
  | zero =>
    intro i k a out hi hk ho ha
    obtain ⟨k, rfl⟩ : ∃ m, k = m + 1 := ⟨k - 1, by omega⟩
    obtain ⟨a0, a1⟩ := ha
    rw [List.drop_eq_nil_of_le (by omega)]
    simp only [partsL, List.map_nil, sumL, List.append_nil, Int.sub_zero]
    rw [Int.emod_eq_of_lt a0 (by omega)]
    constructor
    · simp only [money_Split.l0]; rw [if_neg (by omega)]
    · simp only [psephosref03_Split.l0]; rw [if_neg (by omega)]
  | succ d ih =>
    intro i k a out hi hk ho ha
    obtain ⟨k, rfl⟩ : ∃ m, k = m + 1 := ⟨k - 1, by omega⟩
    have hy := rd_u64 hw (show i < l.length by omega)
    have hyT := hwT _ (rd_mem (xs := l) (i := (i : Int)) (by omega) (by omega))
    obtain ⟨p1, p2⟩ := part_val hx hy hT0 hyT
    obtain ⟨p, hp⟩ : ∃ p, p = x * rd l (i : Int) / T := ⟨_, rfl⟩
    rw [← hp] at p1 p2
    have ep : partsL x T (l.drop i) = p :: partsL x T (l.drop (i + 1)) := by rw [drop_at (by omega)]; simp only [partsL, List.map_cons, ← hp]
    obtain ⟨i1, i2⟩ := ih (i + 1) k ((a - p) % 18446744073709551616) (out ++ [p]) (by omega) (by omega) (by simp; omega) ⟨by omega, by omega⟩
    have em : ((a - p) % 18446744073709551616 - sumL (partsL x T (l.drop (i + 1)))) % 18446744073709551616 = (a - (p + sumL (partsL x T (l.drop (i + 1))))) % 18446744073709551616 := by omega
    rw [List.append_assoc, List.singleton_append, em] at i1 i2
    rw [ep]
    simp only [money_Split.l0, psephosref03_Split.l0, sumL]
    rw [if_pos (by omega), if_pos (by omega), if_pos (by omega), if_pos (by omega), if_pos (by omega), if_pos (by omega), part_ev hx hy hT (by omega), rpart_ev hx hy hT (by omega), p1, Option.bind_some, Option.bind_some, if_pos (by omega), if_pos (by omega), wu64, wsucc (by omega)]
    exact ⟨i1, i2⟩

/-- What the parts leave. -/
theorem parts_sum {x T : Int} (hT0 : 0 < T) : ∀ l : List Int, ∃ R, T * sumL (partsL x T l) + R = x * sumL l ∧ 0 ≤ R ∧ R ≤ (l.length : Int) * (T - 1)
  | [] => ⟨0, by simp [partsL, sumL], by omega, by simp⟩
  | w :: ws => by
    obtain ⟨R, h1, h2, h3⟩ := parts_sum (x := x) hT0 ws
    have e := Int.mul_ediv_add_emod (x * w) T
    have e1 := Int.emod_nonneg (x * w) (show T ≠ 0 by omega)
    have e2 := Int.emod_lt_of_pos (x * w) hT0
    refine ⟨R + x * w % T, ?_, by omega, ?_⟩
    · rw [show partsL x T (w :: ws) = x * w / T :: partsL x T ws from rfl]
      simp only [sumL]
      rw [Int.mul_add, Int.mul_add]; omega
    · rw [List.length_cons, Int.natCast_add, Int.add_mul]; simp only [Int.natCast_one, Int.one_mul]; omega
theorem left_bound {x T : Int} (hT0 : 0 < T) {l : List Int} (hl : sumL l = T) (hn : 0 < l.length) : 0 ≤ x - sumL (partsL x T l) ∧ x - sumL (partsL x T l) < (l.length : Int) := by
  obtain ⟨R, h1, h2, h3⟩ := parts_sum (x := x) hT0 l
  rw [hl] at h1
  have e : T * (x - sumL (partsL x T l)) = R := by rw [Int.mul_sub, Int.mul_comm T x]; omega
  constructor
  · rcases Int.lt_or_le (x - sumL (partsL x T l)) 0 with h | h
    · exfalso
      have := Int.mul_le_mul_of_nonneg_left (show x - sumL (partsL x T l) ≤ -1 by omega) (show 0 ≤ T by omega)
      omega
    · exact h
  · have h4 : (l.length : Int) * (T - 1) < T * (l.length : Int) := by rw [Int.mul_sub, Int.mul_comm]; omega
    exact Int.lt_of_mul_lt_mul_left (show T * (x - sumL (partsL x T l)) < T * (l.length : Int) by omega) (by omega)
theorem parts_u64 {x T : Int} (hx : U64 x) (hT0 : 0 < T) {l : List Int} (hw : ∀ w ∈ l, U64 w) (hwT : ∀ w ∈ l, w ≤ T) : ∀ p ∈ partsL x T l, U64 p := by
  intro p hp
  obtain ⟨w, hw1, rfl⟩ := List.mem_map.1 hp
  exact (part_val hx (hw w hw1) hT0 (hwT w hw1)).2
/-- The law's own loops. -/
theorem same_loop {l : List Int} (hl : l.length ≤ 1000) : ∀ (d i k : Nat), i + d = l.length → d < k → psephoslaw06_same.l0 k l l (l.length : Int) (i : Int) = some true := by
  intro d
  induction d with
  | zero =>
    intro i k hi hk
    obtain ⟨k, rfl⟩ : ∃ m, k = m + 1 := ⟨k - 1, by omega⟩
    simp only [psephoslaw06_same.l0]; rw [if_neg (by omega)]
  | succ d ih =>
    intro i k hi hk
    obtain ⟨k, rfl⟩ : ∃ m, k = m + 1 := ⟨k - 1, by omega⟩
    simp only [psephoslaw06_same.l0]
    rw [if_pos (by omega), if_pos (by omega), if_pos (by omega), if_pos (by omega), if_pos trivial, wsucc (by omega)]
    exact ih (i + 1) k (by omega) (by omega)
theorem same_ev {l : List Int} (hl : l.length ≤ 1000) {k : Nat} (hk : 1000 < k) : psephoslaw06_same.f k l l = some true := by
  unfold psephoslaw06_same.f
  rw [if_pos rfl]; exact same_loop hl l.length 0 k (by omega) (by omega)
theorem law_loop {x left c : Int} {l ps : List Int} (hl : ps.length ≤ 1000) (hp : ∀ p ∈ ps, U64 p) : ∀ (d i k : Nat) (a : Int), i + d = ps.length → d < k → U64 a →
    psephoslaw06_MoneySplits.l0 k x l ps left c a (ps.length : Int) (i : Int) = if c = 0 then (if (a + sumL (ps.drop i)) % 18446744073709551616 = x then some (decide (left < IntKind.u64.wrap (l.length : Int))) else some false) else some true := by
  intro d
  induction d with
  | zero =>
    intro i k a hi hk ha
    obtain ⟨k, rfl⟩ : ∃ m, k = m + 1 := ⟨k - 1, by omega⟩
    obtain ⟨a0, a1⟩ := ha
    rw [List.drop_eq_nil_of_le (by omega)]
    simp only [psephoslaw06_MoneySplits.l0, sumL, Int.add_zero]
    rw [if_neg (by omega), Int.emod_eq_of_lt a0 (by omega)]
  | succ d ih =>
    intro i k a hi hk ha
    obtain ⟨k, rfl⟩ : ∃ m, k = m + 1 := ⟨k - 1, by omega⟩
    have hy := rd_u64 hp (show i < ps.length by omega)
    have i1 := ih (i + 1) k ((a + rd ps (i : Int)) % 18446744073709551616) (by omega) (by omega) ⟨by omega, by omega⟩
    have em : ((a + rd ps (i : Int)) % 18446744073709551616 + sumL (ps.drop (i + 1))) % 18446744073709551616 = (a + (rd ps (i : Int) + sumL (ps.drop (i + 1)))) % 18446744073709551616 := by omega
    rw [em] at i1
    rw [drop_at (by omega)]
    simp only [psephoslaw06_MoneySplits.l0, sumL]
    rw [if_pos (by omega), if_pos (by omega), if_pos (by omega), wu64, wsucc (by omega)]
    exact i1
theorem split_j {x : Int} (hx : U64 x) {l : List Int} (hl : l.length ≤ 200) (hw : ∀ w ∈ l, U64 w) {k : Nat} (hk : 70000 < k) : psephoslaw06_MoneySplits.j0 (k + 1 + 1) x l false = some true := by
  obtain ⟨s1, s2⟩ := sum_loop (by omega) hw l.length 0 (k + 1) 0 (by omega) (by omega) ⟨by omega, by omega⟩
  rw [List.drop_zero, Int.zero_add] at s1 s2
  have e1 : money_Sum.f (k + 1) l = some (sumS (sumL l)) := s1
  have e2 : psephosref03_Sum.f (k + 1) l = some (sumS (sumL l)) := s2
  have S0 := sumL_nonneg hw
  simp only [psephoslaw06_MoneySplits.j0]
  rw [if_neg (by simp)]
  -- where both err
  have err : ∀ c : Int, c ≠ 0 → money_Split.f (k + 1) x l = some ([], 0, c) → psephosref03_Split.f (k + 1) x l = some ([], 0, c) →
      ((money_Split.f (k + 1) x l).bind fun bt454 => ((psephosref03_Split.f (k + 1) x l).bind fun bt459 => ((psephoslaw06_same.f (k + 1) bt454.1 bt459.1).bind fun t464 => (if t464 = true then (if bt454.2.1 = bt459.2.1 then (psephoslaw06_MoneySplits.j1 (k + 1) x l bt454.1 bt454.2.1 bt454.2.2 (bt454.2.2 != bt459.2.2)) else (psephoslaw06_MoneySplits.j1 (k + 1) x l bt454.1 bt454.2.1 bt454.2.2 true)) else (psephoslaw06_MoneySplits.j1 (k + 1) x l bt454.1 bt454.2.1 bt454.2.2 true))))) = some true := by
    intro c hc h1 h2
    rw [h1, h2]; simp only [Option.bind_some]
    rw [same_ev (by simp) (by omega), Option.bind_some, if_pos rfl, if_pos trivial]
    simp only [psephoslaw06_MoneySplits.j1, bne_self_eq_false]
    rw [if_neg (by simp)]
    have := law_loop (x := x) (left := 0) (c := c) (l := l) (ps := []) (by simp) (by intro p hp; cases hp) 0 0 k 0 rfl (by omega) ⟨by omega, by omega⟩
    rw [if_neg hc] at this; exact this
  by_cases hb : sumL l ≤ 18446744073709551615
  · have es : sumS (sumL l) = (sumL l, 0) := by unfold sumS; rw [if_pos hb]
    rw [es] at e1 e2
    by_cases h0 : sumL l = 0
    · refine err 5 (by decide) ?_ ?_
      · unfold money_Split.f; rw [e1, Option.bind_some, if_pos rfl, if_pos h0]
      · unfold psephosref03_Split.f; rw [e2, Option.bind_some, if_pos rfl, if_pos h0]
    · obtain ⟨T, hT⟩ : ∃ T, T = sumL l := ⟨_, rfl⟩
      have hT0 : 0 < T := by omega
      have hTu : U64 T := ⟨by omega, by omega⟩
      have hwT : ∀ w ∈ l, w ≤ T := by rw [hT]; exact le_sumL hw
      have hn : 0 < l.length := by
        rcases Nat.eq_zero_or_pos l.length with h | h
        · rw [List.eq_nil_of_length_eq_zero h] at h0; exact absurd rfl h0
        · exact h
      obtain ⟨f1, f2⟩ := split_loop hx hTu hT0 (by omega) hw hwT l.length 0 (k + 1) x [] (by omega) (by omega) (by simp) hx
      rw [List.drop_zero, List.nil_append] at f1 f2
      obtain ⟨b0, b1⟩ := left_bound (x := x) hT0 hT.symm hn
      have pu := parts_u64 hx hT0 hw hwT
      have pl : (partsL x T l).length = l.length := by simp [partsL]
      have ps0 := sumL_nonneg pu
      obtain ⟨P, hP⟩ : ∃ P, P = sumL (partsL x T l) := ⟨_, rfl⟩
      rw [← hP] at f1 f2 b0 b1 ps0
      have xs := hx.2
      rw [Int.emod_eq_of_lt b0 (by omega)] at f1 f2
      have g1 : money_Split.f (k + 1) x l = some (partsL x T l, x - P, 0) := by
        unfold money_Split.f; rw [e1, Option.bind_some, if_pos rfl, if_neg h0, ← hT]; exact f1
      have g2 : psephosref03_Split.f (k + 1) x l = some (partsL x T l, x - P, 0) := by
        unfold psephosref03_Split.f; rw [e2, Option.bind_some, if_pos rfl, if_neg h0, ← hT]; exact f2
      rw [g1, g2]; simp only [Option.bind_some]
      rw [same_ev (by omega) (by omega), Option.bind_some, if_pos rfl, if_pos trivial]
      simp only [psephoslaw06_MoneySplits.j1, bne_self_eq_false]
      rw [if_neg (by simp)]
      have fin := law_loop (x := x) (left := x - P) (c := 0) (l := l) (ps := partsL x T l) (by omega) pu (partsL x T l).length 0 k (x - P) (by omega) (by omega) ⟨b0, by omega⟩
      rw [List.drop_zero, ← hP, if_pos rfl, Int.sub_add_cancel, Int.emod_eq_of_lt hx.1 (by omega), if_pos rfl, wu (n := (l.length : Int)) (by omega) (by omega), decide_eq_true b1] at fin
      exact fin
  · have es : sumS (sumL l) = (0, 3) := by unfold sumS; rw [if_neg hb]
    rw [es] at e1 e2
    refine err 3 (by decide) ?_ ?_
    · unfold money_Split.f; rw [e1, Option.bind_some, if_neg (by decide)]
    · unfold psephosref03_Split.f; rw [e2, Option.bind_some, if_neg (by decide)]
theorem MoneySplits : psephoslaw06_MoneySplits.Pure := by
  intro x l hx hlm hl8 hw
  have hx' : U64 x := bu64 hx
  have hw' : ∀ w ∈ l, U64 w := fun w h => bu64 (hw w h)
  have hA : psephoslaw06_awake.f = some true := by
    unfold psephoslaw06_awake.f money_Add.f; simp [wu64]
  refine ⟨70001 + 1 + 1, ?_⟩
  unfold psephoslaw06_MoneySplits.f
  rw [hA, Option.bind_some, if_pos rfl]
  by_cases hl : l.length ≤ 200
  · rw [show decide ((l.length : Int) > 200) = false from decide_eq_false (by omega)]
    exact split_j hx' hl hw' (by omega)
  · rw [show decide ((l.length : Int) > 200) = true from decide_eq_true (by omega)]
    simp only [psephoslaw06_MoneySplits.j0, if_true]
    rw [hA]; rfl

end Go.Proofs.Ytapmhmkekkhhpaa.Pure
