/- Lists of limbs as numbers, plainly: what a list is worth, the list without noughts at its end, when two of these are one. No program in sight; no conditions beyond those that are written. -/
import Derived.Test.YtapmhmkekkhhpaaLLimbFormsBase
import Derived.Laws.BitsAllLaws
namespace Go.Proofs.Ytapmhmkekkhhpaa.LLimbForms
open Go.RowKit Go.Proofs.YtapmhmkekkhhpaaW.PrintWords
set_option linter.unusedSimpArgs false
set_option linter.unusedVariables false

theorem rd_cons_zero (x : Int) (xs : List Int) : rd (x :: xs) 0 = x := rfl
theorem rd_getElem {xs : List Int} {i : Int} (h1 : i.toNat < xs.length) : rd xs i = xs[i.toNat] := by
  unfold rd; rw [List.getD_eq_getElem?_getD, List.getElem?_eq_getElem h1]; rfl
theorem drop_rd {xs : List Int} {i : Int} (h0 : 0 ≤ i) (h1 : i < (xs.length : Int)) : xs.drop i.toNat = rd xs i :: xs.drop (i + 1).toNat := by
  have h : i.toNat < xs.length := by omega
  rw [List.drop_eq_getElem_cons h, rd_getElem h, show (i + 1).toNat = i.toNat + 1 by omega]
theorem rd_append_right {xs ys : List Int} {i : Int} (h : (xs.length : Int) ≤ i) : rd (xs ++ ys) i = rd ys (i - xs.length) := by
  unfold rd
  rw [List.getD_eq_getElem?_getD, List.getD_eq_getElem?_getD, List.getElem?_append_right (by omega)]
  congr 2; omega
theorem rd_append_left {xs ys : List Int} {i : Int} (h0 : 0 ≤ i) (h : i < (xs.length : Int)) : rd (xs ++ ys) i = rd xs i := by
  unfold rd
  rw [List.getD_eq_getElem?_getD, List.getD_eq_getElem?_getD, List.getElem?_append_left (by omega)]
theorem set_append_right' {xs ys : List Int} {n : Nat} (h : xs.length ≤ n) (v : Int) : (xs ++ ys).set n v = xs ++ ys.set (n - xs.length) v := by
  rw [List.set_append]; rw [if_neg (by omega)]

/-- A list without noughts at its end. -/
def trimL : List Int → List Int
  | [] => []
  | x :: xs => if trimL xs = [] ∧ x = 0 then [] else x :: trimL xs
/-- What a list of limbs is worth. -/
def val : List Int → Int
  | [] => 0
  | x :: xs => x + 4294967296 * val xs
/-- All are limbs. -/
def Lm (xs : List Int) : Prop := ∀ x ∈ xs, 0 ≤ x ∧ x ≤ 4294967295
theorem Lm.nil : Lm [] := by intro x hx; cases hx
theorem Lm.cons {x : Int} {xs : List Int} (h : 0 ≤ x ∧ x ≤ 4294967295) (hs : Lm xs) : Lm (x :: xs) := by
  intro y hy; rcases List.mem_cons.1 hy with rfl | hy
  · exact h
  · exact hs y hy
theorem Lm.head {x : Int} {xs : List Int} (h : Lm (x :: xs)) : 0 ≤ x ∧ x ≤ 4294967295 := h x (by simp)
theorem Lm.tail {x : Int} {xs : List Int} (h : Lm (x :: xs)) : Lm xs := fun y hy => h y (by simp [hy])
theorem Lm.append {xs ys : List Int} (h : Lm xs) (h' : Lm ys) : Lm (xs ++ ys) := by
  intro x hx; rcases List.mem_append.1 hx with hx | hx
  · exact h x hx
  · exact h' x hx
theorem Lm.left {xs ys : List Int} (h : Lm (xs ++ ys)) : Lm xs := fun x hx => h x (by simp [hx])
theorem Lm.right {xs ys : List Int} (h : Lm (xs ++ ys)) : Lm ys := fun x hx => h x (by simp [hx])
theorem Lm.take {xs : List Int} (h : Lm xs) (n : Nat) : Lm (xs.take n) := fun x hx => h x (List.mem_of_mem_take hx)
theorem Lm.drop {xs : List Int} (h : Lm xs) (n : Nat) : Lm (xs.drop n) := fun x hx => h x (List.mem_of_mem_drop hx)
theorem Lm.rd {xs : List Int} (h : Lm xs) {i : Int} : 0 ≤ rd xs i ∧ rd xs i ≤ 4294967295 := by
  by_cases hi : i.toNat < xs.length
  · rw [rd_getElem hi]; exact h _ (List.getElem_mem hi)
  · unfold Go.Proofs.YtapmhmkekkhhpaaW.PrintWords.rd; rw [List.getD_eq_getElem?_getD, List.getElem?_eq_none (by omega)]; simp
theorem Lm.zeros (n : Nat) : Lm (List.replicate n 0) := by
  intro x hx; obtain ⟨_, rfl⟩ := List.mem_replicate.1 hx; omega
theorem val_nonneg : ∀ {xs : List Int}, Lm xs → 0 ≤ val xs
  | [], _ => by simp [val]
  | x :: xs, h => by have := val_nonneg h.tail; have := h.head; simp only [val]; omega
theorem val_zeros : ∀ n : Nat, val (List.replicate n 0) = 0
  | 0 => rfl
  | n + 1 => by rw [List.replicate_succ]; simp [val, val_zeros n]
theorem val_trimL : ∀ xs : List Int, val (trimL xs) = val xs
  | [] => rfl
  | x :: xs => by
    have ih := val_trimL xs
    unfold trimL
    split
    · rename_i h; rw [h.1] at ih; simp only [val] at ih ⊢; omega
    · simp only [val]; omega
theorem Lm.trim : ∀ {xs : List Int}, Lm xs → Lm (trimL xs)
  | [], h => h
  | x :: xs, h => by
    unfold trimL; split
    · exact Lm.nil
    · exact Lm.cons h.head (Lm.trim h.tail)
theorem trimL_idem : ∀ xs : List Int, trimL (trimL xs) = trimL xs
  | [] => rfl
  | x :: xs => by
    have ih := trimL_idem xs
    by_cases h : trimL xs = [] ∧ x = 0
    · have e : trimL (x :: xs) = [] := by rw [trimL, if_pos h]
      rw [e]; rfl
    · have e : trimL (x :: xs) = x :: trimL xs := by rw [trimL, if_neg h]
      rw [e, trimL, ih, if_neg h]
theorem trimL_length : ∀ xs : List Int, (trimL xs).length ≤ xs.length
  | [] => Nat.le_refl _
  | x :: xs => by
    have ih := trimL_length xs
    unfold trimL; split <;> simp <;> omega
theorem trimL_nil_of_val : ∀ {xs : List Int}, Lm xs → val xs = 0 → trimL xs = []
  | [], _, _ => rfl
  | x :: xs, h, hv => by
    have h1 := val_nonneg h.tail; have h2 := h.head
    simp only [val] at hv
    rw [trimL, if_pos ⟨trimL_nil_of_val h.tail (by omega), by omega⟩]
/-- What is worth the same is the same, without noughts. -/
theorem trimL_eq : ∀ {xs ys : List Int}, Lm xs → Lm ys → val xs = val ys → trimL xs = trimL ys
  | [], ys, _, h, hv => by rw [trimL_nil_of_val h (by rw [← hv]; rfl)]; rfl
  | x :: xs, [], h, _, hv => by rw [trimL_nil_of_val h (by rw [hv]; rfl)]; rfl
  | x :: xs, y :: ys, h, h', hv => by
    have a := h.head; have b := h'.head; have c := val_nonneg h.tail; have d := val_nonneg h'.tail
    simp only [val] at hv
    have e : x = y := by omega
    have f : val xs = val ys := by omega
    subst e
    have ih := trimL_eq h.tail h'.tail f
    unfold trimL; rw [ih]
theorem trimL_snoc_zero : ∀ xs : List Int, trimL (xs ++ [0]) = trimL xs
  | [] => by simp [trimL]
  | x :: xs => by rw [List.cons_append, trimL, trimL, trimL_snoc_zero xs]
theorem trimL_snoc_ne : ∀ (xs : List Int) {y : Int}, y ≠ 0 → trimL (xs ++ [y]) = xs ++ [y]
  | [], y, h => by simp [trimL, h]
  | x :: xs, y, h => by rw [List.cons_append, trimL, trimL_snoc_ne xs h, if_neg (by simp)]
theorem take_rd {xs : List Int} {i : Int} (h0 : 0 ≤ i) (h1 : i < (xs.length : Int)) : xs.take (i + 1).toNat = xs.take i.toNat ++ [rd xs i] := by
  have h : i.toNat < xs.length := by omega
  rw [show (i + 1).toNat = i.toNat + 1 by omega, List.take_succ_eq_append_getElem h, rd_getElem h]
theorem trimL_last {xs : List Int} (h : 0 < xs.length) : trimL xs = if rd xs ((xs.length : Int) - 1) = 0 then trimL (xs.take ((xs.length : Int) - 1).toNat) else xs := by
  have e := take_rd (xs := xs) (i := (xs.length : Int) - 1) (by omega) (by omega)
  rw [show ((xs.length : Int) - 1 + 1).toNat = xs.length by omega, List.take_length] at e
  split
  · rename_i h0
    conv => lhs; rw [e, h0, trimL_snoc_zero]
  · rename_i h0
    conv => lhs; rw [e, trimL_snoc_ne _ h0]
    exact e.symm
/-- Without noughts at its end, all limbs. -/
def Fm (xs : List Int) : Prop := Lm xs ∧ trimL xs = xs
theorem Fm.lm {xs : List Int} (h : Fm xs) : Lm xs := h.1
theorem Fm.of {xs : List Int} (h : Lm xs) : Fm (trimL xs) := ⟨h.trim, trimL_idem xs⟩
theorem Fm.eq {xs ys : List Int} (h : Fm xs) (h' : Fm ys) (hv : val xs = val ys) : xs = ys := by
  have := trimL_eq h.1 h'.1 hv; rwa [h.2, h'.2] at this
theorem Fm.nil : Fm [] := ⟨Lm.nil, rfl⟩
theorem Fm.zero {xs : List Int} (h : Fm xs) (hv : val xs = 0) : xs = [] := h.eq Fm.nil hv
theorem Fm.iff {xs : List Int} (h : Lm xs) : Fm xs ↔ xs.length = 0 ∨ rd xs ((xs.length : Int) - 1) ≠ 0 := by
  constructor
  · intro hf
    by_cases h0 : xs.length = 0
    · exact .inl h0
    · refine .inr fun hz => ?_
      have e := trimL_last (xs := xs) (by omega)
      rw [if_pos hz, hf.2] at e
      have := trimL_length (xs.take ((xs.length : Int) - 1).toNat)
      have h2 := congrArg List.length e
      rw [List.length_take] at this
      omega
  · rintro (h0 | h0)
    · rw [List.eq_nil_of_length_eq_zero h0]; exact Fm.nil
    · refine ⟨h, ?_⟩
      by_cases h1 : xs.length = 0
      · rw [List.eq_nil_of_length_eq_zero h1]; rfl
      · rw [trimL_last (by omega), if_neg h0]
theorem val_append : ∀ xs ys : List Int, val (xs ++ ys) = val xs + 4294967296 ^ xs.length * val ys
  | [], ys => by simp [val]
  | x :: xs, ys => by
    have ih := val_append xs ys
    rw [List.cons_append, val, ih, val, List.length_cons, Int.pow_succ, Int.mul_add]
    have e : (4294967296 : Int) * (4294967296 ^ xs.length * val ys) = 4294967296 ^ xs.length * 4294967296 * val ys := by
      rw [← Int.mul_assoc, Int.mul_comm 4294967296 (4294967296 ^ xs.length)]
    rw [e]; omega
theorem val_lt : ∀ {xs : List Int}, Lm xs → val xs < 4294967296 ^ xs.length
  | [], _ => by simp [val]
  | x :: xs, h => by
    have ih := val_lt h.tail; have := h.head
    rw [List.length_cons, Int.pow_succ, val]; omega
/-- A natural as a list without noughts. -/
theorem Fm.pos {x : Int} {xs : List Int} (h : Fm (x :: xs)) : 0 < val (x :: xs) := by
  have := val_nonneg h.1
  rcases Int.lt_or_eq_of_le this with h0 | h0
  · exact h0
  · have := h.zero h0.symm; cases this

theorem or_low {x y : Int} (hx : 0 ≤ x) (hx' : x ≤ 4294967295) (hy : 0 ≤ y) (hy' : y ≤ 4294967295) : Go.bits .or .u64 (y * 4294967296) x = y * 4294967296 + x := by
  obtain ⟨a, rfl⟩ := Int.eq_ofNat_of_zero_le hx
  obtain ⟨b, rfl⟩ := Int.eq_ofNat_of_zero_le hy
  have e : ((b : Int) * 4294967296) = ((2 ^ 32 * b : Nat) : Int) := by omega
  rw [e, Go.u64_or_nat _ _ (by omega) (by omega), ← Nat.two_pow_add_eq_or_of_lt (by omega)]
  omega
theorem or_high {x y : Int} (hx : 0 ≤ x) (hx' : x ≤ 4294967295) (hy : 0 ≤ y) (hy' : y ≤ 4294967295) : Go.bits .or .u64 x (y * 4294967296) = y * 4294967296 + x := by
  obtain ⟨a, rfl⟩ := Int.eq_ofNat_of_zero_le hx
  obtain ⟨b, rfl⟩ := Int.eq_ofNat_of_zero_le hy
  have e : ((b : Int) * 4294967296) = ((2 ^ 32 * b : Nat) : Int) := by omega
  rw [e, Go.u64_or_nat _ _ (by omega) (by omega), Nat.or_comm, ← Nat.two_pow_add_eq_or_of_lt (by omega)]
  omega

end Go.Proofs.Ytapmhmkekkhhpaa.LLimbForms
