/- Lemmas for the law LimbRules: lists of limbs as numbers, and what the printed functions come to. Conditions stand with each. -/
import Derived.RowKit
import Derived.WalkArith
import Derived.Test.YtapmhmkekkhhpaaWWords
import Derived.Laws.BitsAllLaws
import Derived.Test.YtapmhmkekkhhpaaPLimbRulesx
/- Plain facts on wrapped whole numbers and on reading a list; nothing of the program in sight. No conditions. -/
namespace Go.Proofs.Ytapmhmkekkhhpaa.LLimbRules
open Go.RowKit Go.Proofs.YtapmhmkekkhhpaaW.PrintWords

theorem wu64 (n : Int) : IntKind.u64.wrap n = n % 18446744073709551616 := by
  simp [IntKind.wrap, IntKind.bits, IntKind.signed]
theorem wu32 (n : Int) : IntKind.u32.wrap n = n % 4294967296 := by
  simp [IntKind.wrap, IntKind.bits, IntKind.signed]
theorem wu {n : Int} (h0 : 0 ≤ n) (h1 : n ≤ 18446744073709551615) : IntKind.u64.wrap n = n := by rw [wu64]; omega
theorem wi64 {n : Int} (h : -9223372036854775808 ≤ n) (h' : n ≤ 9223372036854775807) : wrap64 n = n := by
  unfold wrap64; omega
theorem wsucc {i : Nat} (h : i < 4611686018427387904) : wrap64 ((i : Int) + 1) = ((i + 1 : Nat) : Int) := by unfold wrap64; omega
theorem bu64 {n : Int} (h : (Lit.int .u64 n).wf = true) : 0 ≤ n ∧ n ≤ 18446744073709551615 := by
  simp [Lit.wf, IntKind.min, IntKind.max, IntKind.signed, IntKind.bits] at h; omega
theorem bu32 {n : Int} (h : (Lit.int .u32 n).wf = true) : 0 ≤ n ∧ n ≤ 4294967295 := by
  simp [Lit.wf, IntKind.min, IntKind.max, IntKind.signed, IntKind.bits] at h; omega
theorem bi64 {n : Int} (h : (Lit.int .i64 n).wf = true) : -9223372036854775808 ≤ n ∧ n ≤ 9223372036854775807 := by
  simp [Lit.wf, IntKind.min, IntKind.max, IntKind.signed, IntKind.bits] at h; omega
theorem rd_mem {xs : List Int} {i : Int} (h0 : 0 ≤ i) (h1 : i < (xs.length : Int)) : rd xs i ∈ xs := by
  unfold rd
  rw [List.getD_eq_getElem?_getD, List.getElem?_eq_getElem (by omega)]
  simp

end Go.Proofs.Ytapmhmkekkhhpaa.LLimbRules

/- Lists of limbs as numbers, plainly: what a list is worth, the list without noughts at its end, when two of these are one. No program in sight; no conditions beyond those that are written. -/
namespace Go.Proofs.Ytapmhmkekkhhpaa.LLimbRules
open Go.RowKit Go.Proofs.YtapmhmkekkhhpaaW.PrintWords
set_option linter.unusedSimpArgs false
set_option linter.unusedVariables false

theorem rd_cons_zero (x : Int) (xs : List Int) : rd (x :: xs) 0 = x := rfl
theorem rd_getElem {xs : List Int} {i : Int} (h1 : i.toNat < xs.length) : rd xs i = xs[i.toNat] := by
  unfold rd; rw [List.getD_eq_getElem?_getD, List.getElem?_eq_getElem h1]; rfl
theorem drop_rd {xs : List Int} {i : Int} (h0 : 0 ≤ i) (h1 : i < (xs.length : Int)) : xs.drop i.toNat = rd xs i :: xs.drop (i + 1).toNat := by
  have h : i.toNat < xs.length := by omega
  rw [List.drop_eq_getElem_cons h, rd_getElem h, show (i + 1).toNat = i.toNat + 1 by omega]
theorem rd_append_right {xs ys : List Int} {i : Int} (h : (xs.length : Int) ≤ i) : rd (xs ++ ys) i = rd ys (i - xs.length) := by
  unfold rd
  rw [List.getD_eq_getElem?_getD, List.getD_eq_getElem?_getD, List.getElem?_append_right (by omega)]
  congr 2; omega
theorem rd_append_left {xs ys : List Int} {i : Int} (h0 : 0 ≤ i) (h : i < (xs.length : Int)) : rd (xs ++ ys) i = rd xs i := by
  unfold rd
  rw [List.getD_eq_getElem?_getD, List.getD_eq_getElem?_getD, List.getElem?_append_left (by omega)]
theorem set_append_right' {xs ys : List Int} {n : Nat} (h : xs.length ≤ n) (v : Int) : (xs ++ ys).set n v = xs ++ ys.set (n - xs.length) v := by
  rw [List.set_append]; rw [if_neg (by omega)]

/-- A list without noughts at its end. -/
def trimL : List Int → List Int
  | [] => []
  | x :: xs => if trimL xs = [] ∧ x = 0 then [] else x :: trimL xs
/-- What a list of limbs is worth. -/
def val : List Int → Int
  | [] => 0
  | x :: xs => x + 4294967296 * val xs
/-- All are limbs. -/
def Lm (xs : List Int) : Prop := ∀ x ∈ xs, 0 ≤ x ∧ x ≤ 4294967295
theorem Lm.nil : Lm [] := by intro x hx; cases hx
theorem Lm.cons {x : Int} {xs : List Int} (h : 0 ≤ x ∧ x ≤ 4294967295) (hs : Lm xs) : Lm (x :: xs) := by
  intro y hy; rcases List.mem_cons.1 hy with rfl | hy
  · exact h
  · exact hs y hy
theorem Lm.head {x : Int} {xs : List Int} (h : Lm (x :: xs)) : 0 ≤ x ∧ x ≤ 4294967295 := h x (by simp)
theorem Lm.tail {x : Int} {xs : List Int} (h : Lm (x :: xs)) : Lm xs := fun y hy => h y (by simp [hy])
theorem Lm.append {xs ys : List Int} (h : Lm xs) (h' : Lm ys) : Lm (xs ++ ys) := by
  intro x hx; rcases List.mem_append.1 hx with hx | hx
  · exact h x hx
  · exact h' x hx
theorem Lm.left {xs ys : List Int} (h : Lm (xs ++ ys)) : Lm xs := fun x hx => h x (by simp [hx])
theorem Lm.right {xs ys : List Int} (h : Lm (xs ++ ys)) : Lm ys := fun x hx => h x (by simp [hx])
theorem Lm.take {xs : List Int} (h : Lm xs) (n : Nat) : Lm (xs.take n) := fun x hx => h x (List.mem_of_mem_take hx)
theorem Lm.drop {xs : List Int} (h : Lm xs) (n : Nat) : Lm (xs.drop n) := fun x hx => h x (List.mem_of_mem_drop hx)
theorem Lm.rd {xs : List Int} (h : Lm xs) {i : Int} : 0 ≤ rd xs i ∧ rd xs i ≤ 4294967295 := by
  by_cases hi : i.toNat < xs.length
  · rw [rd_getElem hi]; exact h _ (List.getElem_mem hi)
  · unfold Go.Proofs.YtapmhmkekkhhpaaW.PrintWords.rd; rw [List.getD_eq_getElem?_getD, List.getElem?_eq_none (by omega)]; simp
theorem Lm.zeros (n : Nat) : Lm (List.replicate n 0) := by
  intro x hx; obtain ⟨_, rfl⟩ := List.mem_replicate.1 hx; omega
theorem val_nonneg : ∀ {xs : List Int}, Lm xs → 0 ≤ val xs
  | [], _ => by simp [val]
  | x :: xs, h => by have := val_nonneg h.tail; have := h.head; simp only [val]; omega
theorem val_zeros : ∀ n : Nat, val (List.replicate n 0) = 0
  | 0 => rfl
  | n + 1 => by rw [List.replicate_succ]; simp [val, val_zeros n]
theorem val_trimL : ∀ xs : List Int, val (trimL xs) = val xs
  | [] => rfl
  | x :: xs => by
    have ih := val_trimL xs
    unfold trimL
    split
    · rename_i h; rw [h.1] at ih; simp only [val] at ih ⊢; omega
    · simp only [val]; omega
theorem Lm.trim : ∀ {xs : List Int}, Lm xs → Lm (trimL xs)
  | [], h => h
  | x :: xs, h => by
    unfold trimL; split
    · exact Lm.nil
    · exact Lm.cons h.head (Lm.trim h.tail)
theorem trimL_idem : ∀ xs : List Int, trimL (trimL xs) = trimL xs
  | [] => rfl
  | x :: xs => by
    have ih := trimL_idem xs
    by_cases h : trimL xs = [] ∧ x = 0
    · have e : trimL (x :: xs) = [] := by rw [trimL, if_pos h]
      rw [e]; rfl
    · have e : trimL (x :: xs) = x :: trimL xs := by rw [trimL, if_neg h]
      rw [e, trimL, ih, if_neg h]
theorem trimL_length : ∀ xs : List Int, (trimL xs).length ≤ xs.length
  | [] => Nat.le_refl _
  | x :: xs => by
    have ih := trimL_length xs
    unfold trimL; split <;> simp <;> omega
theorem trimL_nil_of_val : ∀ {xs : List Int}, Lm xs → val xs = 0 → trimL xs = []
  | [], _, _ => rfl
  | x :: xs, h, hv => by
    have h1 := val_nonneg h.tail; have h2 := h.head
    simp only [val] at hv
    rw [trimL, if_pos ⟨trimL_nil_of_val h.tail (by omega), by omega⟩]
/-- What is worth the same is the same, without noughts. -/
theorem trimL_eq : ∀ {xs ys : List Int}, Lm xs → Lm ys → val xs = val ys → trimL xs = trimL ys
  | [], ys, _, h, hv => by rw [trimL_nil_of_val h (by rw [← hv]; rfl)]; rfl
  | x :: xs, [], h, _, hv => by rw [trimL_nil_of_val h (by rw [hv]; rfl)]; rfl
  | x :: xs, y :: ys, h, h', hv => by
    have a := h.head; have b := h'.head; have c := val_nonneg h.tail; have d := val_nonneg h'.tail
    simp only [val] at hv
    have e : x = y := by omega
    have f : val xs = val ys := by omega
    subst e
    have ih := trimL_eq h.tail h'.tail f
    unfold trimL; rw [ih]
theorem trimL_snoc_zero : ∀ xs : List Int, trimL (xs ++ [0]) = trimL xs
  | [] => by simp [trimL]
  | x :: xs => by rw [List.cons_append, trimL, trimL, trimL_snoc_zero xs]
theorem trimL_snoc_ne : ∀ (xs : List Int) {y : Int}, y ≠ 0 → trimL (xs ++ [y]) = xs ++ [y]
  | [], y, h => by simp [trimL, h]
  | x :: xs, y, h => by rw [List.cons_append, trimL, trimL_snoc_ne xs h, if_neg (by simp)]
theorem take_rd {xs : List Int} {i : Int} (h0 : 0 ≤ i) (h1 : i < (xs.length : Int)) : xs.take (i + 1).toNat = xs.take i.toNat ++ [rd xs i] := by
  have h : i.toNat < xs.length := by omega
  rw [show (i + 1).toNat = i.toNat + 1 by omega, List.take_succ_eq_append_getElem h, rd_getElem h]
theorem trimL_last {xs : List Int} (h : 0 < xs.length) : trimL xs = if rd xs ((xs.length : Int) - 1) = 0 then trimL (xs.take ((xs.length : Int) - 1).toNat) else xs := by
  have e := take_rd (xs := xs) (i := (xs.length : Int) - 1) (by omega) (by omega)
  rw [show ((xs.length : Int) - 1 + 1).toNat = xs.length by omega, List.take_length] at e
  split
  · rename_i h0
    conv => lhs; rw [e, h0, trimL_snoc_zero]
  · rename_i h0
    conv => lhs; rw [e, trimL_snoc_ne _ h0]
    exact e.symm
/-- Without noughts at its end, all limbs. -/
def Fm (xs : List Int) : Prop := Lm xs ∧ trimL xs = xs
theorem Fm.lm {xs : List Int} (h : Fm xs) : Lm xs := h.1
theorem Fm.of {xs : List Int} (h : Lm xs) : Fm (trimL xs) := ⟨h.trim, trimL_idem xs⟩
theorem Fm.eq {xs ys : List Int} (h : Fm xs) (h' : Fm ys) (hv : val xs = val ys) : xs = ys := by
  have := trimL_eq h.1 h'.1 hv; rwa [h.2, h'.2] at this
theorem Fm.nil : Fm [] := ⟨Lm.nil, rfl⟩
theorem Fm.zero {xs : List Int} (h : Fm xs) (hv : val xs = 0) : xs = [] := h.eq Fm.nil hv
theorem Fm.iff {xs : List Int} (h : Lm xs) : Fm xs ↔ xs.length = 0 ∨ rd xs ((xs.length : Int) - 1) ≠ 0 := by
  constructor
  · intro hf
    by_cases h0 : xs.length = 0
    · exact .inl h0
    · refine .inr fun hz => ?_
      have e := trimL_last (xs := xs) (by omega)
      rw [if_pos hz, hf.2] at e
      have := trimL_length (xs.take ((xs.length : Int) - 1).toNat)
      have h2 := congrArg List.length e
      rw [List.length_take] at this
      omega
  · rintro (h0 | h0)
    · rw [List.eq_nil_of_length_eq_zero h0]; exact Fm.nil
    · refine ⟨h, ?_⟩
      by_cases h1 : xs.length = 0
      · rw [List.eq_nil_of_length_eq_zero h1]; rfl
      · rw [trimL_last (by omega), if_neg h0]
theorem val_append : ∀ xs ys : List Int, val (xs ++ ys) = val xs + 4294967296 ^ xs.length * val ys
  | [], ys => by simp [val]
  | x :: xs, ys => by
    have ih := val_append xs ys
    rw [List.cons_append, val, ih, val, List.length_cons, Int.pow_succ, Int.mul_add]
    have e : (4294967296 : Int) * (4294967296 ^ xs.length * val ys) = 4294967296 ^ xs.length * 4294967296 * val ys := by
      rw [← Int.mul_assoc, Int.mul_comm 4294967296 (4294967296 ^ xs.length)]
    rw [e]; omega
theorem val_lt : ∀ {xs : List Int}, Lm xs → val xs < 4294967296 ^ xs.length
  | [], _ => by simp [val]
  | x :: xs, h => by
    have ih := val_lt h.tail; have := h.head
    rw [List.length_cons, Int.pow_succ, val]; omega
/-- A natural as a list without noughts. -/
theorem Fm.pos {x : Int} {xs : List Int} (h : Fm (x :: xs)) : 0 < val (x :: xs) := by
  have := val_nonneg h.1
  rcases Int.lt_or_eq_of_le this with h0 | h0
  · exact h0
  · have := h.zero h0.symm; cases this

/-- Powers of a limb's size. -/
def pw (n : Nat) : Int := 4294967296 ^ n
theorem pw_zero : pw 0 = 1 := by simp [pw]
theorem pw_succ (n : Nat) : pw (n + 1) = pw n * 4294967296 := by unfold pw; rw [Int.pow_succ]
theorem pw_add (m n : Nat) : pw (m + n) = pw m * pw n := by unfold pw; rw [Int.pow_add]
theorem pw_pos : ∀ n : Nat, 0 < pw n
  | 0 => by rw [pw_zero]; omega
  | n + 1 => by have := pw_pos n; rw [pw_succ]; omega
theorem pw_le {m n : Nat} (h : m ≤ n) : pw m ≤ pw n := by
  obtain ⟨d, rfl⟩ := Nat.exists_eq_add_of_le h
  rw [pw_add]
  have h1 := pw_pos m; have h2 := pw_pos d
  have := Int.mul_le_mul_of_nonneg_left (show (1 : Int) ≤ pw d by omega) (show 0 ≤ pw m by omega)
  omega
theorem val_lt_pw {xs : List Int} (h : Lm xs) : val xs < pw xs.length := val_lt h
theorem val_append_pw (xs ys : List Int) : val (xs ++ ys) = val xs + pw xs.length * val ys := val_append xs ys
theorem rd_past {xs : List Int} {i : Int} (h : (xs.length : Int) ≤ i) : rd xs i = 0 := by
  unfold rd; rw [List.getD_eq_getElem?_getD, List.getElem?_eq_none (by omega)]; rfl
/-- One limb more. -/
theorem val_take_succ (xs : List Int) (i : Nat) : val (xs.take (i + 1)) = val (xs.take i) + pw i * rd xs (i : Int) := by
  by_cases h : i < xs.length
  · have e := take_rd (xs := xs) (i := (i : Int)) (by omega) (by omega)
    rw [show ((i : Int) + 1).toNat = i + 1 by omega, show (i : Int).toNat = i by omega] at e
    rw [e, val_append_pw, List.length_take, Nat.min_eq_left (by omega)]; simp [val]
  · rw [rd_past (by omega), List.take_of_length_le (by omega), List.take_of_length_le (by omega)]; simp
theorem take_set_le {xs : List Int} {i j : Nat} (h : i ≤ j) (v : Int) : (xs.set j v).take i = xs.take i := by
  rw [List.take_set_of_le h]
theorem rd_set_eq {xs : List Int} {i : Nat} (h : i < xs.length) (v : Int) : rd (xs.set i v) (i : Int) = v := by
  unfold rd; rw [List.getD_eq_getElem?_getD, show (i : Int).toNat = i by omega, List.getElem?_set_self (by omega)]; rfl
theorem rd_set_ne {xs : List Int} {i : Nat} {j : Int} (h : 0 ≤ j) (h' : (i : Int) ≠ j) (v : Int) : rd (xs.set i v) j = rd xs j := by
  unfold rd; rw [List.getD_eq_getElem?_getD, List.getD_eq_getElem?_getD, List.getElem?_set_ne (by omega)]
theorem val_take_set {xs : List Int} {i : Nat} (h : i < xs.length) (v : Int) : val ((xs.set i v).take (i + 1)) = val (xs.take i) + pw i * v := by
  rw [val_take_succ, take_set_le (Nat.le_refl _), rd_set_eq h]
theorem Lm.set {xs : List Int} (h : Lm xs) (i : Nat) {v : Int} (hv : 0 ≤ v ∧ v ≤ 4294967295) : Lm (xs.set i v) := by
  intro x hx
  rcases List.mem_or_eq_of_mem_set hx with hx | rfl
  · exact h x hx
  · exact hv
theorem take_zeros (n i : Nat) : val ((List.replicate n (0 : Int)).take i) = 0 := by
  rw [List.take_replicate]; exact val_zeros _
/-- A number as limbs. -/
def natL (n : Int) : List Int := if n ≤ 0 then [] else (n % 4294967296) :: natL (n / 4294967296)
termination_by n.toNat
decreasing_by omega
theorem natL_nil {n : Int} (h : n ≤ 0) : natL n = [] := by unfold natL; rw [if_pos h]
theorem natL_cons {n : Int} (h : 0 < n) : natL n = (n % 4294967296) :: natL (n / 4294967296) := by
  conv => lhs; unfold natL
  rw [if_neg (by omega)]
theorem natL_spec : ∀ (d : Nat) (n : Int), n.toNat ≤ d → Fm (natL n) ∧ (0 ≤ n → val (natL n) = n) := by
  intro d
  induction d with
  | zero => intro n hn; rw [natL_nil (by omega)]; exact ⟨Fm.nil, fun _ => by simp [val]; omega⟩
  | succ d ih =>
    intro n hn
    by_cases h : n ≤ 0
    · rw [natL_nil h]; exact ⟨Fm.nil, fun _ => by simp [val]; omega⟩
    · obtain ⟨h1, h2⟩ := ih (n / 4294967296) (by omega)
      have h2' := h2 (by omega)
      rw [natL_cons (by omega)]
      refine ⟨⟨Lm.cons (by omega) h1.1, ?_⟩, fun _ => by simp only [val]; omega⟩
      unfold trimL
      rw [h1.2, if_neg]
      rintro ⟨e1, e2⟩
      rw [e1] at h2'; simp only [val] at h2'; omega
theorem natL_fm (n : Int) : Fm (natL n) := (natL_spec n.toNat n (Nat.le_refl _)).1
theorem val_natL {n : Int} (h : 0 ≤ n) : val (natL n) = n := (natL_spec n.toNat n (Nat.le_refl _)).2 h
theorem Fm.natL {xs : List Int} (h : Fm xs) : xs = natL (val xs) := h.eq (natL_fm _) (val_natL (val_nonneg h.1)).symm
theorem trim_natL {xs : List Int} (h : Lm xs) : trimL xs = natL (val xs) := by rw [(Fm.of h).natL, val_trimL]
theorem natL_zero : natL 0 = [] := natL_nil (by omega)
theorem natL_inj {m n : Int} (h : 0 ≤ m) (h' : 0 ≤ n) (e : natL m = natL n) : m = n := by rw [← val_natL h, ← val_natL h', e]
theorem Fm.len_pw {xs : List Int} (h : Fm xs) (h0 : 0 < xs.length) : pw (xs.length - 1) ≤ val xs := by
  have e := val_take_succ xs (xs.length - 1)
  rw [show xs.length - 1 + 1 = xs.length by omega, List.take_length] at e
  have h1 : rd xs ((xs.length : Int) - 1) ≠ 0 := by
    rcases (Fm.iff h.1).1 h with h2 | h2
    · omega
    · exact h2
  rw [show (((xs.length - 1 : Nat)) : Int) = (xs.length : Int) - 1 by omega] at e
  have h2 := h.1.rd (i := (xs.length : Int) - 1)
  have h3 := val_nonneg (h.1.take (xs.length - 1))
  have h4 := pw_pos (xs.length - 1)
  have h5 := Int.mul_le_mul_of_nonneg_left (show (1 : Int) ≤ rd xs ((xs.length : Int) - 1) by omega) (show 0 ≤ pw (xs.length - 1) by omega)
  omega
theorem Fm.len_le {xs : List Int} (h : Fm xs) (n : Nat) : xs.length ≤ n ↔ val xs < pw n := by
  constructor
  · intro hl
    have := val_lt_pw h.1; have := pw_le hl; omega
  · intro hv
    by_cases h0 : xs.length ≤ n
    · exact h0
    · have := h.len_pw (by omega)
      have := pw_le (show n ≤ xs.length - 1 by omega)
      omega
theorem natL_len {m : Int} (h : 0 ≤ m) (n : Nat) : (natL m).length ≤ n ↔ m < pw n := by
  rw [(natL_fm m).len_le, val_natL h]
/-- How two numbers compare. -/
def cmpS (a b : Int) : Int := if a < b then -1 else if a = b then 0 else 1
theorem Fm.lt_of_len {xs ys : List Int} (h : Fm xs) (h' : Fm ys) (hl : xs.length < ys.length) : val xs < val ys := by
  have h1 := val_lt_pw h.1
  have h2 := h'.len_pw (by omega)
  have h3 := pw_le (show xs.length ≤ ys.length - 1 by omega)
  omega
theorem cmpS_step {V W P x y : Int} (hV : 0 ≤ V) (hW : 0 ≤ W) (hV' : V < P) (hW' : W < P) : cmpS (V + P * x) (W + P * y) = if x < y then -1 else if y < x then 1 else cmpS V W := by
  have hP : 0 ≤ P := by omega
  unfold cmpS
  by_cases h1 : x < y
  · have := Int.mul_le_mul_of_nonneg_left (show x + 1 ≤ y by omega) hP
    rw [Int.mul_add] at this
    rw [if_pos h1, if_pos (by omega)]
  · rw [if_neg h1]
    by_cases h2 : y < x
    · have := Int.mul_le_mul_of_nonneg_left (show y + 1 ≤ x by omega) hP
      rw [Int.mul_add] at this
      rw [if_pos h2, if_neg (by omega), if_neg (by omega)]
    · rw [if_neg h2]
      have : x = y := by omega
      subst this
      by_cases h3 : V < W
      · rw [if_pos h3, if_pos (by omega)]
      · rw [if_neg h3, if_neg (by omega)]
        by_cases h4 : V = W
        · rw [if_pos h4, if_pos (by omega)]
        · rw [if_neg h4, if_neg (by omega)]

theorem or_low {x y : Int} (hx : 0 ≤ x) (hx' : x ≤ 4294967295) (hy : 0 ≤ y) (hy' : y ≤ 4294967295) : Go.bits .or .u64 (y * 4294967296) x = y * 4294967296 + x := by
  obtain ⟨a, rfl⟩ := Int.eq_ofNat_of_zero_le hx
  obtain ⟨b, rfl⟩ := Int.eq_ofNat_of_zero_le hy
  have e : ((b : Int) * 4294967296) = ((2 ^ 32 * b : Nat) : Int) := by omega
  rw [e, Go.u64_or_nat _ _ (by omega) (by omega), ← Nat.two_pow_add_eq_or_of_lt (by omega)]
  omega
theorem or_high {x y : Int} (hx : 0 ≤ x) (hx' : x ≤ 4294967295) (hy : 0 ≤ y) (hy' : y ≤ 4294967295) : Go.bits .or .u64 x (y * 4294967296) = y * 4294967296 + x := by
  obtain ⟨a, rfl⟩ := Int.eq_ofNat_of_zero_le hx
  obtain ⟨b, rfl⟩ := Int.eq_ofNat_of_zero_le hy
  have e : ((b : Int) * 4294967296) = ((2 ^ 32 * b : Nat) : Int) := by omega
  rw [e, Go.u64_or_nat _ _ (by omega) (by omega), Nat.or_comm, ← Nat.two_pow_add_eq_or_of_lt (by omega)]
  omega

end Go.Proofs.Ytapmhmkekkhhpaa.LLimbRules

/- What the printed functions of layer 1 that form naturals come to: trim, Of, Formed, formed, fit. Conditions: lists of limbs, of fewer than 2^40 elements. -/
namespace Go.Proofs.Ytapmhmkekkhhpaa.LLimbRules
open Go.RowKit Go.Proofs.Ytapmhmkekkhhpaa.PLimbRules Go.Proofs.YtapmhmkekkhhpaaW.PrintWords Go.Proofs.YtapmhmkekkhhpaaW.PrintLast Go.Proofs.YtapmhmkekkhhpaaW.PrintMore
set_option linter.unusedSimpArgs false
set_option linter.unusedVariables false

theorem trim_k : ∀ (n : Nat) (l : List Int), l.length = n → n < 1099511627776 → ∀ k, n < k → limb_trim.l0 k l = some (trimL l) := by
  intro n
  induction n with
  | zero =>
    intro l hl _ k hk
    obtain ⟨k, rfl⟩ : ∃ m, k = m + 1 := ⟨k - 1, by omega⟩
    simp only [limb_trim.l0]
    rw [if_neg (by omega), List.eq_nil_of_length_eq_zero hl]; rfl
  | succ n ih =>
    intro l hl hn k hk
    obtain ⟨k, rfl⟩ : ∃ m, k = m + 1 := ⟨k - 1, by omega⟩
    have hw : wrap64 ((l.length : Int) - 1) = (l.length : Int) - 1 := wi64 (by omega) (by omega)
    simp only [limb_trim.l0]
    rw [hw, if_pos (by omega), if_pos (by omega), if_pos (by omega), trimL_last (by omega)]
    by_cases h0 : rd l ((l.length : Int) - 1) = 0
    · rw [if_pos h0, if_pos (by omega), if_pos h0]
      exact ih _ (by rw [List.length_take]; omega) (by omega) k (by omega)
    · rw [if_neg h0, if_neg h0]
theorem trim_ev {l : List Int} (h : l.length < 1099511627776) {k : Nat} (hk : l.length < k) : limb_trim.f k l = some (trimL l) := trim_k _ l rfl h k hk
/-- A number as a natural. -/
def ofN (n : Int) : List Int := trimL [n % 4294967296, n / 4294967296 % 4294967296]
theorem of_ev (n : Int) {k : Nat} (hk : 2 < k) : limb_Of.f k n = some (ofN n) := by
  unfold limb_Of.f; rw [trim_ev (by simp) (by simpa using hk)]; rfl
theorem ofN_fm (n : Int) : Fm (ofN n) := Fm.of (Lm.cons (by omega) (Lm.cons (by omega) Lm.nil))
theorem ofN_val {n : Int} (h0 : 0 ≤ n) (h1 : n ≤ 18446744073709551615) : val (ofN n) = n := by
  unfold ofN; rw [val_trimL]; simp only [val]; omega
theorem ofN_len (n : Int) : (ofN n).length ≤ 2 := trimL_length _
/-- Is a list a natural: not too long, no nought at its end. -/
def fmB (l : List Int) : Bool := decide (l.length ≤ 400) && (decide (l.length = 0) || decide (rd l ((l.length : Int) - 1) ≠ 0))
theorem fmB_iff {l : List Int} (h : Lm l) : fmB l = true ↔ l.length ≤ 400 ∧ Fm l := by
  unfold fmB; rw [Fm.iff h]; simp
theorem Formed_ev {l : List Int} (h : l.length < 1099511627776) : limb_Formed.f l = some (fmB l) := by
  have hw : wrap64 ((l.length : Int) - 1) = (l.length : Int) - 1 := wi64 (by omega) (by omega)
  unfold limb_Formed.f fmB
  rw [hw]
  by_cases h1 : l.length ≤ 400
  · rw [if_pos (by omega)]
    by_cases h2 : l.length = 0
    · rw [if_pos (by omega)]; simp [h1, h2]
    · rw [if_neg (by omega), if_pos (by omega), if_pos (by omega)]; simp [h1, h2, bne]; rfl
  · rw [if_neg (by omega)]; simp [h1]
theorem index_ev : ∀ (d : Nat) (ls : List (List Int)) (k : Nat) (i : Int), 0 ≤ i → (ls.length : Int) - i = d → ls.length < 1099511627776 → (∀ l ∈ ls, l.length < 1099511627776) → d < k →
    ∃ r, slices_IndexFunc_limb_Nat_limb_Nat__limb_formed_1.l0 k ls (ls.length : Int) i = some r ∧ decide (r ≥ 0) = (ls.drop i.toNat).any (fun l => !fmB l) := by
  intro d
  induction d with
  | zero =>
    intro ls k i h0 hd _ _ hk
    obtain ⟨k, rfl⟩ : ∃ m, k = m + 1 := ⟨k - 1, by omega⟩
    refine ⟨-1, ?_, ?_⟩
    · simp only [slices_IndexFunc_limb_Nat_limb_Nat__limb_formed_1.l0]; rw [if_neg (by omega)]
    · rw [List.drop_eq_nil_of_le (by omega)]; rfl
  | succ d ih =>
    intro ls k i h0 hd hl hls hk
    obtain ⟨k, rfl⟩ : ∃ m, k = m + 1 := ⟨k - 1, by omega⟩
    have hi : i.toNat < ls.length := by omega
    have hrd : rd_L1 ls i = ls[i.toNat] := by unfold rd_L1; rw [List.getD_eq_getElem?_getD, List.getElem?_eq_getElem hi]; rfl
    have hdr : ls.drop i.toNat = ls[i.toNat] :: ls.drop (i + 1).toNat := by rw [List.drop_eq_getElem_cons hi, show (i + 1).toNat = i.toNat + 1 by omega]
    have hF : limb_formed_1.f (rd_L1 ls i) = some (!fmB (rd_L1 ls i)) := by
      unfold limb_formed_1.f; rw [Formed_ev (by rw [hrd]; exact hls _ (List.getElem_mem hi))]; rfl
    simp only [slices_IndexFunc_limb_Nat_limb_Nat__limb_formed_1.l0]
    rw [if_pos (by omega), if_pos h0, if_pos (by omega), hF]; simp only [Option.bind_some]
    rw [hdr, List.any_cons, ← hrd]
    cases hb : fmB (rd_L1 ls i) with
    | true =>
      obtain ⟨r, hr, h⟩ := ih ls k (i + 1) (by omega) (by omega) hl hls (by omega)
      refine ⟨r, ?_, ?_⟩
      · rw [if_neg (by simp), wi64 (by omega) (by omega)]; exact hr
      · rw [h]; rfl
    | false => exact ⟨i, by rw [if_pos (by simp)], by simp [h0]⟩
theorem not_any_not : ∀ ls : List (List Int), (!ls.any (fun l => !fmB l)) = ls.all fmB
  | [] => rfl
  | a :: b => by rw [List.any_cons, List.all_cons, ← not_any_not b]; cases fmB a <;> simp
theorem formed_ev {ls : List (List Int)} (hl : ls.length < 1099511627776) (hls : ∀ l ∈ ls, l.length < 1099511627776) {k : Nat} (hk : ls.length < k) : limb_formed.f k ls = some (ls.all fmB) := by
  obtain ⟨r, hr, h⟩ := index_ev ls.length ls k 0 (by omega) (by omega) hl hls hk
  unfold limb_formed.f slices_ContainsFunc_limb_Nat_limb_Nat__limb_formed_1.f slices_IndexFunc_limb_Nat_limb_Nat__limb_formed_1.f
  rw [hr]; simp only [Option.bind_some]; rw [h]
  exact congrArg some (not_any_not ls)
theorem formed2_ev {a b : List Int} (ha : a.length < 1099511627776) (hb : b.length < 1099511627776) {k : Nat} (hk : 2 < k) : limb_formed.f k [a, b] = some (fmB a && fmB b) := by
  rw [formed_ev (by simp) (by intro l hl; simp at hl; rcases hl with rfl | rfl <;> assumption) (by simpa using hk)]; simp
/-- A result that isn't too long. -/
def fitL (l : List Int) : List Int × Int := if (trimL l).length ≤ 400 then (trimL l, 0) else ([], 4)
/-- A number as a result that isn't too long. -/
def fitN (n : Int) : List Int × Int := if (natL n).length ≤ 400 then (natL n, 0) else ([], 4)
theorem fitL_val {l : List Int} (h : Lm l) : fitL l = fitN (val l) := by unfold fitL fitN; rw [trim_natL h]
theorem ofN_natL {n : Int} (h0 : 0 ≤ n) (h1 : n ≤ 18446744073709551615) : ofN n = natL n := by rw [(ofN_fm n).natL, ofN_val h0 h1]
theorem fmB_nat {l : List Int} (h : Lm l) (hb : fmB l = true) : l = natL (val l) ∧ l.length ≤ 400 ∧ Fm l := by
  have := (fmB_iff h).1 hb; exact ⟨this.2.natL, this.1, this.2⟩
theorem fmB_natL {n : Int} (h : (natL n).length ≤ 400) : fmB (natL n) = true := (fmB_iff (natL_fm n).1).2 ⟨h, natL_fm n⟩
theorem fit_ev {l : List Int} (h : l.length < 1099511627776) {k : Nat} (hk : l.length < k) : limb_fit.f k l = some (fitL l) := by
  unfold limb_fit.f fitL; rw [trim_ev h hk]; simp only [Option.bind_some]
  by_cases h1 : (trimL l).length ≤ 400
  · rw [if_neg (by omega), if_pos h1]
  · rw [if_pos (by omega), if_neg h1]

end Go.Proofs.Ytapmhmkekkhhpaa.LLimbRules

/- What Add of layer 1 comes to: the sum, or its error. Conditions: lists of limbs, of fewer than 2^39 elements. -/
namespace Go.Proofs.Ytapmhmkekkhhpaa.LLimbRules
open Go.RowKit Go.Proofs.Ytapmhmkekkhhpaa.PLimbRules Go.Proofs.YtapmhmkekkhhpaaW.PrintWords Go.Proofs.YtapmhmkekkhhpaaW.PrintLast Go.Proofs.YtapmhmkekkhhpaaW.PrintMore
set_option linter.unusedSimpArgs false
set_option linter.unusedVariables false

theorem add_step {P c x y V A W s : Int} (h : V + P * c = A + W) (hs : s = c + x + y) : V + P * (s % 4294967296) + (P * 4294967296) * (s / 4294967296) = A + P * x + (W + P * y) := by
  have := Int.emod_add_mul_ediv s 4294967296
  grind
theorem add_loop {x0 x1 : List Int} (h0 : Lm x0) (h1 : Lm x1) (hle : x1.length ≤ x0.length) (hb : x0.length < 549755813888) : ∀ (d i k : Nat) (out : List Int) (c : Int),
    i + d = x0.length → out.length = x0.length + 1 → Lm out → 0 ≤ c → c ≤ 1 → val (out.take i) + pw i * c = val (x0.take i) + val (x1.take i) → x0.length + 2 + d < k →
    limb_Add.l0 k x0 x1 out c (x0.length : Int) (i : Int) = some (fitN (val x0 + val x1)) := by
  intro d
  induction d with
  | zero =>
    intro i k out c hi hl hm hc0 hc1 hv hk
    obtain ⟨k, rfl⟩ : ∃ m, k = m + 1 := ⟨k - 1, by omega⟩
    obtain rfl : i = x0.length := by omega
    simp only [limb_Add.l0]
    rw [if_neg (by omega), if_pos (by omega), if_pos (by omega), show ((x0.length : Int)).toNat = x0.length by omega, Int.emod_eq_of_lt hc0 (by omega)]
    have hm' : Lm (out.set x0.length c) := hm.set _ ⟨hc0, by omega⟩
    have hv' : val (out.set x0.length c) = val x0 + val x1 := by
      have e := val_take_set (xs := out) (i := x0.length) (by omega) c
      rw [show (out.set x0.length c).take (x0.length + 1) = out.set x0.length c from List.take_of_length_le (by simp; omega)] at e
      rw [e, hv, List.take_length, List.take_of_length_le hle]
    rw [fit_ev (by simp; omega) (by simp; omega), fitL_val hm', hv']; rfl
  | succ d ih =>
    intro i k out c hi hl hm hc0 hc1 hv hk
    obtain ⟨k, rfl⟩ : ∃ m, k = m + 1 := ⟨k - 1, by omega⟩
    have hx := h0.rd (i := (i : Int)); have hy := h1.rd (i := (i : Int))
    simp only [limb_Add.l0]
    rw [if_pos (by omega), if_pos (by omega), if_pos (by omega), wsucc (by omega), show ((i : Int)).toNat = i by omega]
    have go : ∀ s : Int, s = c + rd x0 (i : Int) + rd x1 (i : Int) → limb_Add.l0 k x0 x1 (out.set i (s % 4294967296)) (s / 4294967296) (x0.length : Int) ((i + 1 : Nat) : Int) = some (fitN (val x0 + val x1)) := by
      intro s hs
      have e1 : (out.set i (s % 4294967296)).length = x0.length + 1 := by rw [List.length_set]; exact hl
      have e2 : val ((out.set i (s % 4294967296)).take (i + 1)) + pw (i + 1) * (s / 4294967296) = val (x0.take (i + 1)) + val (x1.take (i + 1)) := by
        rw [val_take_set (by omega), val_take_succ x0, val_take_succ x1, pw_succ]
        exact add_step hv hs
      have e3 : 0 ≤ s / 4294967296 ∧ s / 4294967296 ≤ 1 := by omega
      have e4 : i + 1 + d = x0.length := by omega
      have e5 : x0.length + 2 + d < k := by omega
      exact ih (i + 1) k _ _ e4 e1 (hm.set _ (by omega)) e3.1 e3.2 e2 e5
    by_cases hb1 : (i : Int) < (x1.length : Int)
    · rw [if_pos hb1, if_pos (by omega), wu (n := rd x0 (i : Int)) (by omega) (by omega), wu (n := rd x1 (i : Int)) (by omega) (by omega), wu (n := c + rd x0 (i : Int)) (by omega) (by omega), wu (by omega) (by omega)]
      exact go _ rfl
    · rw [if_neg hb1, if_pos (by omega), wu (n := rd x0 (i : Int)) (by omega) (by omega), wu (by omega) (by omega)]
      exact go _ (by rw [rd_past (xs := x1) (by omega)]; omega)
/-- The sum of two lists, or the error. -/
def addS (a b : List Int) : List Int × Int := if fmB a = true ∧ fmB b = true then fitN (val a + val b) else ([], 1)
theorem add_j {a b : List Int} (ha : Lm a) (hb : Lm b) (hle : b.length ≤ a.length) (hl : a.length < 549755813888) {k : Nat} (hk : 2 * a.length + 5 < k) : limb_Add.j0 k a b = some (fitN (val a + val b)) := by
  obtain ⟨k, rfl⟩ : ∃ m, k = m + 1 := ⟨k - 1, by omega⟩
  simp only [limb_Add.j0]
  rw [wi64 (n := (a.length : Int) + 1) (by omega) (by omega), if_pos (by omega), if_pos (by omega), show ((a.length : Int) + 1).toNat = a.length + 1 by omega]
  have := add_loop ha hb hle hl a.length 0 k (List.replicate (a.length + 1) 0) 0 (by omega) (by simp) (Lm.zeros _) (by omega) (by omega) (by simp [val]) (by omega)
  exact this
theorem add_ev {a b : List Int} (ha : Lm a) (hb : Lm b) (hal : a.length < 549755813888) (hbl : b.length < 549755813888) {k : Nat} (hk : 2 * a.length + 2 * b.length + 10 < k) : limb_Add.f k a b = some (addS a b) := by
  unfold limb_Add.f addS
  rw [formed2_ev (by omega) (by omega) (by omega)]; simp only [Option.bind_some]
  cases hfa : fmB a <;> cases hfb : fmB b <;> simp
  by_cases h : a.length < b.length
  · rw [if_pos (by omega), add_j hb ha (by omega) hbl (by omega), Int.add_comm]
  · rw [if_neg (by omega), add_j ha hb (by omega) hal (by omega)]

end Go.Proofs.Ytapmhmkekkhhpaa.LLimbRules

/- What Mul of layer 1 comes to: the product, or its error. Conditions: lists of limbs, of fewer than 2^38 elements. -/
namespace Go.Proofs.Ytapmhmkekkhhpaa.LLimbRules
open Go.RowKit Go.Proofs.Ytapmhmkekkhhpaa.PLimbRules Go.Proofs.YtapmhmkekkhhpaaW.PrintWords Go.Proofs.YtapmhmkekkhhpaaW.PrintLast Go.Proofs.YtapmhmkekkhhpaaW.PrintMore
set_option linter.unusedSimpArgs false
set_option linter.unusedVariables false

theorem mul_step {P Q c x y o V U W s : Int} (h : V + P * Q * c = U + P * x * W) (hs : s = c + x * y + o) : V + P * Q * (s % 4294967296) + (P * Q * 4294967296) * (s / 4294967296) = U + P * Q * o + P * x * (W + Q * y) := by
  have := Int.emod_add_mul_ediv s 4294967296
  grind
theorem mul_le {x y : Int} (hx : 0 ≤ x ∧ x ≤ 4294967295) (hy : 0 ≤ y ∧ y ≤ 4294967295) : 0 ≤ x * y ∧ x * y ≤ 18446744065119617025 := by
  have h1 := Int.mul_nonneg hx.1 hy.1
  have h2 := Int.mul_le_mul hx.2 hy.2 hy.1 (by omega : (0 : Int) ≤ 4294967295)
  omega

theorem mul_inner {a b : List Int} (hb : Lm b) {x : Int} (hx : 0 ≤ x ∧ x ≤ 4294967295) (hlb : b.length < 274877906944) (hla : a.length < 274877906944) {i n : Nat} (hin : i < n) (hn : n = a.length) {out0 : List Int} (hl0 : out0.length = n + b.length) : ∀ (d j k : Nat) (out : List Int) (c : Int),
    j + d = b.length → out.length = n + b.length → Lm out → (∀ q : Int, ((i + j : Nat) : Int) ≤ q → rd out q = rd out0 q) → 0 ≤ c → c ≤ 4294967295 →
    val (out.take (i + j)) + pw i * pw j * c = val (out0.take (i + j)) + pw i * x * val (b.take j) → d < k →
    ∃ (k' : Nat) (out' : List Int), k ≤ k' + d + 1 ∧ k' < k ∧ out'.length = n + b.length ∧ Lm out' ∧ val (out'.take (i + b.length + 1)) = val (out0.take (i + b.length)) + pw i * x * val b ∧
      limb_Mul.l1 k b out (i : Int) x c a (n : Int) (i : Int) b (b.length : Int) (j : Int) = limb_Mul.l0 k' b out' a (n : Int) ((i + 1 : Nat) : Int) := by
  intro d
  induction d with
  | zero =>
    intro j k out c hj hol hm hsame hc0 hc1 hv hk
    obtain ⟨k, rfl⟩ : ∃ m, k = m + 1 := ⟨k - 1, by omega⟩
    obtain rfl : j = b.length := by omega
    refine ⟨k, out.set (i + b.length) c, by omega, by omega, by rw [List.length_set]; exact hol, hm.set _ ⟨hc0, hc1⟩, ?_, ?_⟩
    · rw [val_take_set (by omega), pw_add, hv, List.take_length]
    · simp only [limb_Mul.l1]
      rw [if_neg (by omega), wi64 (n := (i : Int) + (b.length : Int)) (by omega) (by omega), if_pos (by omega), if_pos (by omega), wsucc (by omega), Int.emod_eq_of_lt hc0 (by omega), show ((i : Int) + (b.length : Int)).toNat = i + b.length by omega]
  | succ d ih =>
    intro j k out c hj hol hm hsame hc0 hc1 hv hk
    obtain ⟨k, rfl⟩ : ∃ m, k = m + 1 := ⟨k - 1, by omega⟩
    have hy := hb.rd (i := (j : Int))
    have ho := hm.rd (i := ((i + j : Nat) : Int))
    have hxy := mul_le hx hy
    generalize hp : x * rd b (j : Int) = p at hxy
    have e1 : ∀ s : Int, (out.set (i + j) (s % 4294967296)).length = n + b.length := fun s => by rw [List.length_set]; exact hol
    have e2 : ∀ s : Int, s = c + p + rd out ((i + j : Nat) : Int) → val ((out.set (i + j) (s % 4294967296)).take (i + (j + 1))) + pw i * pw (j + 1) * (s / 4294967296) = val (out0.take (i + (j + 1))) + pw i * x * val (b.take (j + 1)) := by
      intro s hs
      rw [show i + (j + 1) = i + j + 1 by omega, val_take_set (by omega), val_take_succ out0, val_take_succ b, pw_add, pw_succ, ← hsame _ (Int.le_refl _)]
      have := mul_step hv (show s = c + x * rd b (j : Int) + rd out ((i + j : Nat) : Int) by omega)
      rw [show pw i * (pw j * 4294967296) = pw i * pw j * 4294967296 by grind]
      exact this
    have e3 : ∀ s : Int, ∀ q : Int, ((i + (j + 1) : Nat) : Int) ≤ q → rd (out.set (i + j) (s % 4294967296)) q = rd out0 q := by
      intro s q hq; rw [rd_set_ne (by omega) (by omega)]; exact hsame q (by omega)
    obtain ⟨k', out', g1, g2, g3, g4, g5, g6⟩ := ih (j + 1) k (out.set (i + j) ((c + p + rd out ((i + j : Nat) : Int)) % 4294967296)) ((c + p + rd out ((i + j : Nat) : Int)) / 4294967296) (by omega) (e1 _) (hm.set _ (by omega)) (e3 _) (by omega) (by omega) (e2 _ rfl) (by omega)
    refine ⟨k', out', by omega, by omega, g3, g4, g5, ?_⟩
    rw [← g6]
    simp only [limb_Mul.l1]
    rw [if_pos (by omega), if_pos (by omega), if_pos (by omega), wi64 (n := (i : Int) + (j : Int)) (by omega) (by omega), if_pos (by omega), if_pos (by omega), wsucc (by omega), show (i : Int) + (j : Int) = ((i + j : Nat) : Int) by omega, wu (n := x) (by omega) (by omega), wu (n := rd b (j : Int)) (by omega) (by omega), hp, wu (n := p) (by omega) (by omega), wu (n := rd out ((i + j : Nat) : Int)) (by omega) (by omega), wu (n := p + rd out ((i + j : Nat) : Int)) (by omega) (by omega), wu (by omega) (by omega), show (((i + j : Nat) : Int)).toNat = i + j by omega, show c + (p + rd out ((i + j : Nat) : Int)) = c + p + rd out ((i + j : Nat) : Int) by omega]
theorem mul_outer {a b : List Int} (ha : Lm a) (hb : Lm b) (hlb : b.length < 274877906944) (hla : a.length < 274877906944) : ∀ (d i k : Nat) (out : List Int),
    i + d = a.length → out.length = a.length + b.length → Lm out → val (out.take (i + b.length)) = val (a.take i) * val b → (d + 1) * (b.length + 2) + a.length + b.length + 2 < k →
    limb_Mul.l0 k b out a (a.length : Int) (i : Int) = some (fitN (val a * val b)) := by
  intro d
  induction d with
  | zero =>
    intro i k out hi hol hm hv hk
    obtain ⟨k, rfl⟩ : ∃ m, k = m + 1 := ⟨k - 1, by omega⟩
    obtain rfl : i = a.length := by omega
    simp only [limb_Mul.l0]
    rw [if_neg (by omega), fit_ev (by omega) (by omega), fitL_val hm]; simp only [Option.bind_some]
    rw [List.take_of_length_le (by omega), List.take_length] at hv
    rw [hv]
  | succ d ih =>
    intro i k out hi hol hm hv hk
    obtain ⟨k, rfl⟩ : ∃ m, k = m + 1 := ⟨k - 1, by omega⟩
    have hx := ha.rd (i := (i : Int))
    have hmul : (d + 1 + 1) * (b.length + 2) = (d + 1) * (b.length + 2) + (b.length + 2) := by rw [Nat.add_mul]; omega
    obtain ⟨k', out', g1, g2, g3, g4, g5, g6⟩ := mul_inner (a := a) hb hx hlb hla (i := i) (n := a.length) (by omega) rfl (out0 := out) hol b.length 0 k out 0 (by omega) hol hm (fun _ _ => rfl) (by omega) (by omega) (by simp [val]) (by omega)
    simp only [limb_Mul.l0]
    rw [if_pos (by omega), if_pos (by omega), if_pos (by omega)]
    have g6' : limb_Mul.l1 k b out (i : Int) (rd a (i : Int)) 0 a (a.length : Int) (i : Int) b (b.length : Int) 0 = limb_Mul.l0 k' b out' a (a.length : Int) ((i + 1 : Nat) : Int) := g6
    rw [g6']
    refine ih (i + 1) k' out' (by omega) g3 g4 ?_ (by omega)
    rw [show i + 1 + b.length = i + b.length + 1 by omega, g5, hv, val_take_succ]
    grind
/-- The product of two lists, or the error. -/
def mulS (a b : List Int) : List Int × Int := if fmB a = true ∧ fmB b = true then fitN (val a * val b) else ([], 1)
theorem mul_ev {a b : List Int} (ha : Lm a) (hb : Lm b) (hal : a.length < 274877906944) (hbl : b.length < 274877906944) {k : Nat} (hk : (a.length + 1) * (b.length + 2) + a.length + b.length + 10 < k) : limb_Mul.f k a b = some (mulS a b) := by
  unfold limb_Mul.f mulS
  rw [formed2_ev (by omega) (by omega) (by omega)]; simp only [Option.bind_some]
  cases hfa : fmB a <;> cases hfb : fmB b <;> simp
  rw [wi64 (n := (a.length : Int) + (b.length : Int)) (by omega) (by omega)]
  refine ⟨by omega, by omega, ?_⟩
  rw [show ((a.length : Int) + (b.length : Int)).toNat = a.length + b.length by omega]
  exact mul_outer ha hb hbl hal a.length 0 k (List.replicate (a.length + b.length) 0) (by omega) (by simp) (Lm.zeros _) (by rw [take_zeros]; simp [val]) (by omega)

end Go.Proofs.Ytapmhmkekkhhpaa.LLimbRules

/- What compare and Cmp of layer 1 come to, the reference's too. Conditions: lists of limbs, of fewer than 2^39 elements. -/
namespace Go.Proofs.Ytapmhmkekkhhpaa.LLimbRules
open Go.RowKit Go.Proofs.Ytapmhmkekkhhpaa.PLimbRules Go.Proofs.YtapmhmkekkhhpaaW.PrintWords Go.Proofs.YtapmhmkekkhhpaaW.PrintLast Go.Proofs.YtapmhmkekkhhpaaW.PrintMore
set_option linter.unusedSimpArgs false
set_option linter.unusedVariables false

theorem cmp_loop {xs ys : List Int} (hx : Lm xs) (hy : Lm ys) (hl : xs.length < 549755813888) (hl' : ys.length < 549755813888) : ∀ (n k : Nat), n ≤ xs.length → n ≤ ys.length → n < k →
    limb_compare.l0 k xs ys ((n : Int) - 1) = some (cmpS (val (xs.take n)) (val (ys.take n))) := by
  intro n
  induction n with
  | zero =>
    intro k _ _ hk
    obtain ⟨k, rfl⟩ : ∃ m, k = m + 1 := ⟨k - 1, by omega⟩
    simp only [limb_compare.l0]; rw [if_neg (by omega)]; simp [val, cmpS]
  | succ n ih =>
    intro k h1 h2 hk
    obtain ⟨k, rfl⟩ : ∃ m, k = m + 1 := ⟨k - 1, by omega⟩
    have e : (((n + 1 : Nat) : Int) - 1) = (n : Int) := by omega
    simp only [limb_compare.l0]
    rw [e, if_pos (by omega), if_pos (by omega), if_pos (by omega), if_pos (by omega), wi64 (by omega) (by omega), ih k (by omega) (by omega) (by omega), val_take_succ, val_take_succ]
    have a1 := val_nonneg (hx.take n); have a2 := val_nonneg (hy.take n)
    have a3 := val_lt_pw (hx.take n); have a4 := val_lt_pw (hy.take n)
    rw [List.length_take, Nat.min_eq_left (by omega)] at a3 a4
    rw [cmpS_step a1 a2 a3 a4]
    by_cases h3 : rd xs (n : Int) < rd ys (n : Int)
    · rw [if_pos h3, if_pos h3]
    · rw [if_neg h3, if_neg h3]
      by_cases h4 : rd ys (n : Int) < rd xs (n : Int)
      · rw [if_pos (by omega), if_pos h4]
      · rw [if_neg (by omega), if_neg h4]
theorem compare_ev {a b : List Int} (ha : Fm a) (hb : Fm b) (hl : a.length < 549755813888) (hl' : b.length < 549755813888) {k : Nat} (hk : a.length < k) : limb_compare.f k a b = some (cmpS (val a) (val b)) := by
  unfold limb_compare.f
  by_cases h1 : a.length < b.length
  · have := ha.lt_of_len hb h1
    rw [if_pos (by omega)]; unfold cmpS; rw [if_pos this]
  · rw [if_neg (by omega)]
    by_cases h2 : b.length < a.length
    · have := hb.lt_of_len ha h2
      rw [if_pos (by omega)]; unfold cmpS; rw [if_neg (by omega), if_neg (by omega)]
    · rw [if_neg (by omega), wi64 (by omega) (by omega)]
      have := cmp_loop ha.1 hb.1 hl hl' a.length k (by omega) (by omega) hk
      rw [this, List.take_length, List.take_of_length_le (by omega)]

end Go.Proofs.Ytapmhmkekkhhpaa.LLimbRules

/- What Sub of layer 1 comes to: the difference, or its error. Conditions: lists of limbs, of fewer than 2^39 elements. -/
namespace Go.Proofs.Ytapmhmkekkhhpaa.LLimbRules
open Go.RowKit Go.Proofs.Ytapmhmkekkhhpaa.PLimbRules Go.Proofs.YtapmhmkekkhhpaaW.PrintWords Go.Proofs.YtapmhmkekkhhpaaW.PrintLast Go.Proofs.YtapmhmkekkhhpaaW.PrintMore
set_option linter.unusedSimpArgs false
set_option linter.unusedVariables false

theorem sub_step {P c x y V A W v c' : Int} (h : V = A - W + P * c) (hs : v = x - c - y + 4294967296 * c') : V + P * v = A + P * x - (W + P * y) + (P * 4294967296) * c' := by grind
theorem clone_ev {l : List Int} (h : l.length < 1099511627776) : slices_Clone_limb_Nat_uint32.f l = some l := by
  unfold slices_Clone_limb_Nat_uint32.f; simp only [Option.bind_some]; rw [if_pos (by simp; omega)]; simp
theorem sub_loop {a b : List Int} (ha : Lm a) (hb : Lm b) (hv0 : val b ≤ val a) (hbl : b.length ≤ a.length) (hl : a.length < 549755813888) : ∀ (d i k : Nat) (out : List Int) (c : Int),
    i + d = a.length → out.length = a.length → Lm out → (∀ j : Int, (i : Int) ≤ j → rd out j = rd a j) → 0 ≤ c → c ≤ 1 → val (out.take i) = val (a.take i) - val (b.take i) + pw i * c → a.length + d + 2 < k →
    limb_Sub.l0 k b out c (a.length : Int) (i : Int) = some (natL (val a - val b), 0) := by
  intro d
  induction d with
  | zero =>
    intro i k out c hi hol hm hsame hc0 hc1 hv hk
    obtain ⟨k, rfl⟩ : ∃ m, k = m + 1 := ⟨k - 1, by omega⟩
    obtain rfl : i = a.length := by omega
    simp only [limb_Sub.l0]
    rw [if_neg (by omega), trim_ev (by omega) (by omega), trim_natL hm]; simp only [Option.bind_some]
    have e : val out = val a - val b := by
      rw [List.take_of_length_le (show out.length ≤ a.length by omega), List.take_length, List.take_of_length_le hbl] at hv
      have h1 := val_lt_pw hm
      rw [hol] at h1
      have h2 : c = 0 := by
        rcases (show c = 0 ∨ c = 1 by omega) with h | h
        · exact h
        · subst h; omega
      subst h2; omega
    rw [e]
  | succ d ih =>
    intro i k out c hi hol hm hsame hc0 hc1 hv hk
    obtain ⟨k, rfl⟩ : ∃ m, k = m + 1 := ⟨k - 1, by omega⟩
    have hx := ha.rd (i := (i : Int)); have hy := hb.rd (i := (i : Int))
    have go : ∀ s c' : Int, s = rd a (i : Int) - c - rd b (i : Int) → 0 ≤ c' → c' ≤ 1 → s % 4294967296 = s + 4294967296 * c' → limb_Sub.l0 k b (out.set i (s % 4294967296)) c' (a.length : Int) ((i + 1 : Nat) : Int) = some (natL (val a - val b), 0) := by
      intro s c' hs h0 h1 hm2
      have e1 : (out.set i (s % 4294967296)).length = a.length := by rw [List.length_set]; exact hol
      have e2 : val ((out.set i (s % 4294967296)).take (i + 1)) = val (a.take (i + 1)) - val (b.take (i + 1)) + pw (i + 1) * c' := by
        rw [val_take_set (by omega), val_take_succ a, val_take_succ b, pw_succ]
        exact sub_step hv (by omega)
      have e3 : ∀ j : Int, ((i + 1 : Nat) : Int) ≤ j → rd (out.set i (s % 4294967296)) j = rd a j := by
        intro j hj; rw [rd_set_ne (by omega) (by omega)]; exact hsame j (by omega)
      have e4 : i + 1 + d = a.length := by omega
      have e5 : a.length + d + 2 < k := by omega
      exact ih (i + 1) k _ _ e4 e1 (hm.set _ (by omega)) e3 h0 h1 e2 e5
    simp only [limb_Sub.l0]
    rw [if_pos (by omega), if_pos (by omega), if_pos (by omega), wsucc (by omega), show ((i : Int)).toNat = i by omega, hsame (i : Int) (by omega), wi64 (n := rd a (i : Int)) (by omega) (by omega), wi64 (n := rd a (i : Int) - c) (by omega) (by omega)]
    by_cases hb1 : (i : Int) < (b.length : Int)
    · rw [if_pos hb1, wi64 (n := rd b (i : Int)) (by omega) (by omega), wi64 (by omega) (by omega)]; simp only [Option.bind_some]
      by_cases hn : rd a (i : Int) - c - rd b (i : Int) < 0
      · rw [if_pos hn]; exact go _ 1 rfl (by omega) (by omega) (by omega)
      · rw [if_neg hn]; exact go _ 0 rfl (by omega) (by omega) (by omega)
    · rw [if_neg hb1]; simp only [Option.bind_some]
      have hz := rd_past (xs := b) (i := (i : Int)) (by omega)
      by_cases hn : rd a (i : Int) - c < 0
      · rw [if_pos hn]; exact go _ 1 (by omega) (by omega) (by omega) (by omega)
      · rw [if_neg hn]; exact go _ 0 (by omega) (by omega) (by omega) (by omega)
/-- The difference of two lists, or the error. -/
def subS (a b : List Int) : List Int × Int := if fmB a = true ∧ fmB b = true then (if val a < val b then ([], 3) else (natL (val a - val b), 0)) else ([], 1)
theorem sub_ev {a b : List Int} (ha : Lm a) (hb : Lm b) (hal : a.length < 549755813888) (hbl : b.length < 549755813888) {k : Nat} (hk : 2 * a.length + 10 < k) : limb_Sub.f k a b = some (subS a b) := by
  unfold limb_Sub.f subS
  rw [formed2_ev (by omega) (by omega) (by omega)]; simp only [Option.bind_some]
  cases hfa : fmB a <;> cases hfb : fmB b <;> simp
  have fa := ((fmB_iff ha).1 hfa).2; have fb := ((fmB_iff hb).1 hfb).2
  rw [compare_ev fa fb hal hbl (by omega)]; simp only [Option.bind_some]
  by_cases h : val a < val b
  · rw [if_pos (by unfold cmpS; rw [if_pos h]; omega), if_pos h]
  · rw [if_neg (by unfold cmpS; rw [if_neg h]; split <;> omega), if_neg h, clone_ev (by omega)]; simp only [Option.bind_some]
    have hle : b.length ≤ a.length := by
      by_cases h2 : a.length < b.length
      · have := fa.lt_of_len fb h2; omega
      · omega
    exact sub_loop ha hb (by omega) hle hal a.length 0 k a 0 (by omega) rfl ha (fun _ _ => rfl) (by omega) (by omega) (by simp [val]) (by omega)

end Go.Proofs.Ytapmhmkekkhhpaa.LLimbRules

/- What Cmp of layer 1 comes to. Conditions: lists of limbs, of fewer than 2^39 elements. -/
namespace Go.Proofs.Ytapmhmkekkhhpaa.LLimbRules
open Go.RowKit Go.Proofs.Ytapmhmkekkhhpaa.PLimbRules Go.Proofs.YtapmhmkekkhhpaaW.PrintWords Go.Proofs.YtapmhmkekkhhpaaW.PrintLast Go.Proofs.YtapmhmkekkhhpaaW.PrintMore
set_option linter.unusedSimpArgs false
set_option linter.unusedVariables false

def cmpF (a b : List Int) : Int := if fmB a = true ∧ fmB b = true then cmpS (val a) (val b) else 0
theorem Cmp_ev {a b : List Int} (ha : Lm a) (hb : Lm b) (hal : a.length < 549755813888) (hbl : b.length < 549755813888) {k : Nat} (hk : a.length + 5 < k) : limb_Cmp.f k a b = some (cmpF a b) := by
  unfold limb_Cmp.f cmpF
  rw [formed2_ev (by omega) (by omega) (by omega)]; simp only [Option.bind_some]
  cases hfa : fmB a <;> cases hfb : fmB b <;> simp
  rw [compare_ev ((fmB_iff ha).1 hfa).2 ((fmB_iff hb).1 hfb).2 hal hbl (by omega)]

end Go.Proofs.Ytapmhmkekkhhpaa.LLimbRules

/- The statements' own first questions of layer 1: awake says yes, few says whether all lists have at most 410 elements. No conditions beyond bounds on lengths. -/
namespace Go.Proofs.Ytapmhmkekkhhpaa.LLimbRules
open Go.RowKit Go.Proofs.Ytapmhmkekkhhpaa.PLimbRules Go.Proofs.YtapmhmkekkhhpaaW.PrintWords Go.Proofs.YtapmhmkekkhhpaaW.PrintLast Go.Proofs.YtapmhmkekkhhpaaW.PrintMore
set_option linter.unusedSimpArgs false
set_option linter.unusedVariables false

theorem awake_ev : ∃ K, ∀ k, K ≤ k → psephoslaw01_awake.f k = some true :=
  Ev.of (g := fun k => psephoslaw01_awake.f k) (fun k => psephoslaw01_awake.mono k) (k := 9) (by decide +kernel)
theorem few_ev : ∀ (d : Nat) (ls : List (List Int)) (k : Nat) (i : Int), 0 ≤ i → (ls.length : Int) - i = d → ls.length < 1099511627776 → d < k →
    psephoslaw01_few.l0 k ls (ls.length : Int) i = some ((ls.drop i.toNat).all (fun l => decide (l.length ≤ 410))) := by
  intro d
  induction d with
  | zero =>
    intro ls k i h0 hd _ hk
    obtain ⟨k, rfl⟩ : ∃ m, k = m + 1 := ⟨k - 1, by omega⟩
    simp only [psephoslaw01_few.l0]; rw [if_neg (by omega), List.drop_eq_nil_of_le (by omega)]; rfl
  | succ d ih =>
    intro ls k i h0 hd hl hk
    obtain ⟨k, rfl⟩ : ∃ m, k = m + 1 := ⟨k - 1, by omega⟩
    have hi : i.toNat < ls.length := by omega
    have hrd : rd_L1 ls i = ls[i.toNat] := by unfold rd_L1; rw [List.getD_eq_getElem?_getD, List.getElem?_eq_getElem hi]; rfl
    have hdr : ls.drop i.toNat = ls[i.toNat] :: ls.drop (i + 1).toNat := by rw [List.drop_eq_getElem_cons hi, show (i + 1).toNat = i.toNat + 1 by omega]
    simp only [psephoslaw01_few.l0]
    rw [if_pos (by omega), if_pos h0, if_pos (by omega), hdr, List.all_cons, ← hrd]
    by_cases h : (rd_L1 ls i).length ≤ 410
    · rw [if_neg (by omega), wi64 (by omega) (by omega), ih ls k (i + 1) (by omega) (by omega) hl (by omega)]; simp [h]
    · rw [if_pos (by omega)]; simp [h]
theorem few_all {ls : List (List Int)} (hl : ls.length < 1099511627776) {k : Nat} (hk : ls.length < k) : psephoslaw01_few.f k ls = some (ls.all (fun l => decide (l.length ≤ 410))) := by
  have := few_ev ls.length ls k 0 (by omega) (by omega) hl hk
  unfold psephoslaw01_few.f
  simpa using this

end Go.Proofs.Ytapmhmkekkhhpaa.LLimbRules
