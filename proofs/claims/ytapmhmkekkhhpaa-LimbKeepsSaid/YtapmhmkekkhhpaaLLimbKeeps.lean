/- Lemmas for the law LimbKeeps: lists of limbs as numbers, and what the printed functions come to. Conditions stand with each. -/
import Derived.RowKit
import Derived.WalkArith
import Derived.Test.YtapmhmkekkhhpaaVLimbKeeps
import Derived.Laws.BitsAllLaws
import Derived.Test.YtapmhmkekkhhpaaPLimbKeepsx
namespace Go.Proofs.Ytapmhmkekkhhpaa.LLimbKeeps
open Go.RowKit Go.Proofs.YtapmhmkekkhhpaaW.PrintWords Go.Proofs.Ytapmhmkekkhhpaa.PLimbKeeps Go.Proofs.YtapmhmkekkhhpaaW.PrintLast Go.Proofs.YtapmhmkekkhhpaaW.PrintMore
set_option linter.unusedSimpArgs false
set_option linter.unusedVariables false
/- Plain facts on wrapped whole numbers and on reading a list; nothing of the program in sight. No conditions. -/
theorem wu64 (n : Int) : IntKind.u64.wrap n = n % 18446744073709551616 := by
  simp [IntKind.wrap, IntKind.bits, IntKind.signed]
theorem wu32 (n : Int) : IntKind.u32.wrap n = n % 4294967296 := by
  simp [IntKind.wrap, IntKind.bits, IntKind.signed]
theorem wu {n : Int} (h0 : 0 ≤ n) (h1 : n ≤ 18446744073709551615) : IntKind.u64.wrap n = n := by rw [wu64]; omega
theorem wi64 {n : Int} (h : -9223372036854775808 ≤ n) (h' : n ≤ 9223372036854775807) : wrap64 n = n := by
  unfold wrap64; omega
theorem wsucc {i : Nat} (h : i < 4611686018427387904) : wrap64 ((i : Int) + 1) = ((i + 1 : Nat) : Int) := by unfold wrap64; omega
theorem bu64 {n : Int} (h : (Lit.int .u64 n).wf = true) : 0 ≤ n ∧ n ≤ 18446744073709551615 := by
  simp [Lit.wf, IntKind.min, IntKind.max, IntKind.signed, IntKind.bits] at h; omega
theorem bu32 {n : Int} (h : (Lit.int .u32 n).wf = true) : 0 ≤ n ∧ n ≤ 4294967295 := by
  simp [Lit.wf, IntKind.min, IntKind.max, IntKind.signed, IntKind.bits] at h; omega
theorem bi64 {n : Int} (h : (Lit.int .i64 n).wf = true) : -9223372036854775808 ≤ n ∧ n ≤ 9223372036854775807 := by
  simp [Lit.wf, IntKind.min, IntKind.max, IntKind.signed, IntKind.bits] at h; omega
theorem rd_mem {xs : List Int} {i : Int} (h0 : 0 ≤ i) (h1 : i < (xs.length : Int)) : rd xs i ∈ xs := by
  unfold rd
  rw [List.getD_eq_getElem?_getD, List.getElem?_eq_getElem (by omega)]
  simp
/- Lists of limbs as numbers, plainly: what a list is worth, the list without noughts at its end, when two of these are one. No program in sight; no conditions beyond those that are written. -/
theorem rd_cons_zero (x : Int) (xs : List Int) : rd (x :: xs) 0 = x := rfl
theorem rd_getElem {xs : List Int} {i : Int} (h1 : i.toNat < xs.length) : rd xs i = xs[i.toNat] := by
  unfold rd; rw [List.getD_eq_getElem?_getD, List.getElem?_eq_getElem h1]; rfl
theorem drop_rd {xs : List Int} {i : Int} (h0 : 0 ≤ i) (h1 : i < (xs.length : Int)) : xs.drop i.toNat = rd xs i :: xs.drop (i + 1).toNat := by
  have h : i.toNat < xs.length := by omega
  rw [List.drop_eq_getElem_cons h, rd_getElem h, show (i + 1).toNat = i.toNat + 1 by omega]
theorem rd_append_right {xs ys : List Int} {i : Int} (h : (xs.length : Int) ≤ i) : rd (xs ++ ys) i = rd ys (i - xs.length) := by
  unfold rd
  rw [List.getD_eq_getElem?_getD, List.getD_eq_getElem?_getD, List.getElem?_append_right (by omega)]
  congr 2; omega
theorem rd_append_left {xs ys : List Int} {i : Int} (h0 : 0 ≤ i) (h : i < (xs.length : Int)) : rd (xs ++ ys) i = rd xs i := by
  unfold rd
  rw [List.getD_eq_getElem?_getD, List.getD_eq_getElem?_getD, List.getElem?_append_left (by omega)]
theorem set_append_right' {xs ys : List Int} {n : Nat} (h : xs.length ≤ n) (v : Int) : (xs ++ ys).set n v = xs ++ ys.set (n - xs.length) v := by
  rw [List.set_append]; rw [if_neg (by omega)]
/-- A list without noughts at its end. -/
def trimL : List Int → List Int
  | [] => []
  | x :: xs => if trimL xs = [] ∧ x = 0 then [] else x :: trimL xs
/-- What a list of limbs is worth. -/
def val : List Int → Int
  | [] => 0
  | x :: xs => x + 4294967296 * val xs
/-- All are limbs. -/
def Lm (xs : List Int) : Prop := ∀ x ∈ xs, 0 ≤ x ∧ x ≤ 4294967295
theorem Lm.nil : Lm [] := by intro x hx; cases hx
theorem Lm.cons {x : Int} {xs : List Int} (h : 0 ≤ x ∧ x ≤ 4294967295) (hs : Lm xs) : Lm (x :: xs) := by
  intro y hy; rcases List.mem_cons.1 hy with rfl | hy
  ·exact h
  ·exact hs y hy
theorem Lm.head {x : Int} {xs : List Int} (h : Lm (x :: xs)) : 0 ≤ x ∧ x ≤ 4294967295 := h x (by simp)
theorem Lm.tail {x : Int} {xs : List Int} (h : Lm (x :: xs)) : Lm xs := fun y hy => h y (by simp [hy])
theorem Lm.append {xs ys : List Int} (h : Lm xs) (h' : Lm ys) : Lm (xs ++ ys) := by
  intro x hx; rcases List.mem_append.1 hx with hx | hx
  ·exact h x hx
  ·exact h' x hx
theorem Lm.left {xs ys : List Int} (h : Lm (xs ++ ys)) : Lm xs := fun x hx => h x (by simp [hx])
theorem Lm.right {xs ys : List Int} (h : Lm (xs ++ ys)) : Lm ys := fun x hx => h x (by simp [hx])
theorem Lm.take {xs : List Int} (h : Lm xs) (n : Nat) : Lm (xs.take n) := fun x hx => h x (List.mem_of_mem_take hx)
theorem Lm.drop {xs : List Int} (h : Lm xs) (n : Nat) : Lm (xs.drop n) := fun x hx => h x (List.mem_of_mem_drop hx)
theorem Lm.rd {xs : List Int} (h : Lm xs) {i : Int} : 0 ≤ rd xs i ∧ rd xs i ≤ 4294967295 := by
  by_cases hi : i.toNat < xs.length
  ·rw [rd_getElem hi]; exact h _ (List.getElem_mem hi)
  ·unfold Go.Proofs.YtapmhmkekkhhpaaW.PrintWords.rd; rw [List.getD_eq_getElem?_getD, List.getElem?_eq_none (by omega)]; simp
theorem Lm.zeros (n : Nat) : Lm (List.replicate n 0) := by
  intro x hx; obtain ⟨_, rfl⟩ := List.mem_replicate.1 hx; omega
theorem val_nonneg : ∀ {xs : List Int}, Lm xs → 0 ≤ val xs
  | [], _ => by simp [val]
  | x :: xs, h => by have := val_nonneg h.tail; have := h.head; simp only [val]; omega
theorem val_zeros : ∀ n : Nat, val (List.replicate n 0) = 0
  | 0 => rfl
  | n + 1 => by rw [List.replicate_succ]; simp [val, val_zeros n]
theorem val_trimL : ∀ xs : List Int, val (trimL xs) = val xs
  | [] => rfl
  | x :: xs => by
   have ih := val_trimL xs
   unfold trimL
   split
   ·rename_i h; rw [h.1] at ih; simp only [val] at ih ⊢; omega
   ·simp only [val]; omega
theorem Lm.trim : ∀ {xs : List Int}, Lm xs → Lm (trimL xs)
  | [], h => h
  | x :: xs, h => by
   unfold trimL; split
   ·exact Lm.nil
   ·exact Lm.cons h.head (Lm.trim h.tail)
theorem trimL_idem : ∀ xs : List Int, trimL (trimL xs) = trimL xs
  | [] => rfl
  | x :: xs => by
   have ih := trimL_idem xs
   by_cases h : trimL xs = [] ∧ x = 0
   ·have e : trimL (x :: xs) = [] := by rw [trimL, if_pos h]
    rw [e]; rfl
   ·have e : trimL (x :: xs) = x :: trimL xs := by rw [trimL, if_neg h]
    rw [e, trimL, ih, if_neg h]
theorem trimL_length : ∀ xs : List Int, (trimL xs).length ≤ xs.length
  | [] => Nat.le_refl _
  | x :: xs => by
   have ih := trimL_length xs
   unfold trimL; split <;> simp <;> omega
theorem trimL_nil_of_val : ∀ {xs : List Int}, Lm xs → val xs = 0 → trimL xs = []
  | [], _, _ => rfl
  | x :: xs, h, hv => by
   have h1 := val_nonneg h.tail; have h2 := h.head
   simp only [val] at hv
   rw [trimL, if_pos ⟨trimL_nil_of_val h.tail (by omega), by omega⟩]
/-- What is worth the same is the same, without noughts. -/
theorem trimL_eq : ∀ {xs ys : List Int}, Lm xs → Lm ys → val xs = val ys → trimL xs = trimL ys
  | [], ys, _, h, hv => by rw [trimL_nil_of_val h (by rw [← hv]; rfl)]; rfl
  | x :: xs, [], h, _, hv => by rw [trimL_nil_of_val h (by rw [hv]; rfl)]; rfl
  | x :: xs, y :: ys, h, h', hv => by
   have a := h.head; have b := h'.head; have c := val_nonneg h.tail; have d := val_nonneg h'.tail
   simp only [val] at hv
   have e : x = y := by omega
   have f : val xs = val ys := by omega
   subst e
   have ih := trimL_eq h.tail h'.tail f
   unfold trimL; rw [ih]
theorem trimL_snoc_zero : ∀ xs : List Int, trimL (xs ++ [0]) = trimL xs
  | [] => by simp [trimL]
  | x :: xs => by rw [List.cons_append, trimL, trimL, trimL_snoc_zero xs]
theorem trimL_snoc_ne : ∀ (xs : List Int) {y : Int}, y ≠ 0 → trimL (xs ++ [y]) = xs ++ [y]
  | [], y, h => by simp [trimL, h]
  | x :: xs, y, h => by rw [List.cons_append, trimL, trimL_snoc_ne xs h, if_neg (by simp)]
theorem take_rd {xs : List Int} {i : Int} (h0 : 0 ≤ i) (h1 : i < (xs.length : Int)) : xs.take (i + 1).toNat = xs.take i.toNat ++ [rd xs i] := by
  have h : i.toNat < xs.length := by omega
  rw [show (i + 1).toNat = i.toNat + 1 by omega, List.take_succ_eq_append_getElem h, rd_getElem h]
theorem trimL_last {xs : List Int} (h : 0 < xs.length) : trimL xs = if rd xs ((xs.length : Int) - 1) = 0 then trimL (xs.take ((xs.length : Int) - 1).toNat) else xs := by
  have e := take_rd (xs := xs) (i := (xs.length : Int) - 1) (by omega) (by omega)
  rw [show ((xs.length : Int) - 1 + 1).toNat = xs.length by omega, List.take_length] at e
  split
  ·rename_i h0
   conv => lhs; rw [e, h0, trimL_snoc_zero]
  ·rename_i h0
   conv => lhs; rw [e, trimL_snoc_ne _ h0]
   exact e.symm
/-- Without noughts at its end, all limbs. -/
def Fm (xs : List Int) : Prop := Lm xs ∧ trimL xs = xs
theorem Fm.lm {xs : List Int} (h : Fm xs) : Lm xs := h.1
theorem Fm.of {xs : List Int} (h : Lm xs) : Fm (trimL xs) := ⟨h.trim, trimL_idem xs⟩
theorem Fm.eq {xs ys : List Int} (h : Fm xs) (h' : Fm ys) (hv : val xs = val ys) : xs = ys := by
  have := trimL_eq h.1 h'.1 hv; rwa [h.2, h'.2] at this
theorem Fm.nil : Fm [] := ⟨Lm.nil, rfl⟩
theorem Fm.zero {xs : List Int} (h : Fm xs) (hv : val xs = 0) : xs = [] := h.eq Fm.nil hv
theorem Fm.iff {xs : List Int} (h : Lm xs) : Fm xs ↔ xs.length = 0 ∨ rd xs ((xs.length : Int) - 1) ≠ 0 := by
  constructor
  ·intro hf
   by_cases h0 : xs.length = 0
   ·exact .inl h0
   ·refine .inr fun hz => ?_
    have e := trimL_last (xs := xs) (by omega)
    rw [if_pos hz, hf.2] at e
    have := trimL_length (xs.take ((xs.length : Int) - 1).toNat)
    have h2 := congrArg List.length e
    rw [List.length_take] at this
    omega
  ·rintro (h0 | h0)
   ·rw [List.eq_nil_of_length_eq_zero h0]; exact Fm.nil
   ·refine ⟨h, ?_⟩
    by_cases h1 : xs.length = 0
    ·rw [List.eq_nil_of_length_eq_zero h1]; rfl
    ·rw [trimL_last (by omega), if_neg h0]
theorem val_append : ∀ xs ys : List Int, val (xs ++ ys) = val xs + 4294967296 ^ xs.length * val ys
  | [], ys => by simp [val]
  | x :: xs, ys => by
   have ih := val_append xs ys
   rw [List.cons_append, val, ih, val, List.length_cons, Int.pow_succ, Int.mul_add]
   have e : (4294967296 : Int) * (4294967296 ^ xs.length * val ys) = 4294967296 ^ xs.length * 4294967296 * val ys := by
    rw [← Int.mul_assoc, Int.mul_comm 4294967296 (4294967296 ^ xs.length)]
   rw [e]; omega
theorem val_lt : ∀ {xs : List Int}, Lm xs → val xs < 4294967296 ^ xs.length
  | [], _ => by simp [val]
  | x :: xs, h => by
   have ih := val_lt h.tail; have := h.head
   rw [List.length_cons, Int.pow_succ, val]; omega
/-- A natural as a list without noughts. -/
theorem Fm.pos {x : Int} {xs : List Int} (h : Fm (x :: xs)) : 0 < val (x :: xs) := by
  have := val_nonneg h.1
  rcases Int.lt_or_eq_of_le this with h0 | h0
  ·exact h0
  ·have := h.zero h0.symm; cases this
/-- Powers of a limb's size. -/
def pw (n : Nat) : Int := 4294967296 ^ n
theorem pw_zero : pw 0 = 1 := by simp [pw]
theorem pw_succ (n : Nat) : pw (n + 1) = pw n * 4294967296 := by unfold pw; rw [Int.pow_succ]
theorem pw_add (m n : Nat) : pw (m + n) = pw m * pw n := by unfold pw; rw [Int.pow_add]
theorem pw_pos : ∀ n : Nat, 0 < pw n
  | 0 => by rw [pw_zero]; omega
  | n + 1 => by have := pw_pos n; rw [pw_succ]; omega
theorem pw_le {m n : Nat} (h : m ≤ n) : pw m ≤ pw n := by
  obtain ⟨d, rfl⟩ := Nat.exists_eq_add_of_le h
  rw [pw_add]
  have h1 := pw_pos m; have h2 := pw_pos d
  have := Int.mul_le_mul_of_nonneg_left (show (1 : Int) ≤ pw d by omega) (show 0 ≤ pw m by omega)
  omega
theorem val_lt_pw {xs : List Int} (h : Lm xs) : val xs < pw xs.length := val_lt h
theorem val_append_pw (xs ys : List Int) : val (xs ++ ys) = val xs + pw xs.length * val ys := val_append xs ys
theorem rd_past {xs : List Int} {i : Int} (h : (xs.length : Int) ≤ i) : rd xs i = 0 := by
  unfold rd; rw [List.getD_eq_getElem?_getD, List.getElem?_eq_none (by omega)]; rfl
/-- One limb more. -/
theorem val_take_succ (xs : List Int) (i : Nat) : val (xs.take (i + 1)) = val (xs.take i) + pw i * rd xs (i : Int) := by
  by_cases h : i < xs.length
  ·have e := take_rd (xs := xs) (i := (i : Int)) (by omega) (by omega)
   rw [show ((i : Int) + 1).toNat = i + 1 by omega, show (i : Int).toNat = i by omega] at e
   rw [e, val_append_pw, List.length_take, Nat.min_eq_left (by omega)]; simp [val]
  ·rw [rd_past (by omega), List.take_of_length_le (by omega), List.take_of_length_le (by omega)]; simp
theorem take_set_le {xs : List Int} {i j : Nat} (h : i ≤ j) (v : Int) : (xs.set j v).take i = xs.take i := by
  rw [List.take_set_of_le h]
theorem rd_set_eq {xs : List Int} {i : Nat} (h : i < xs.length) (v : Int) : rd (xs.set i v) (i : Int) = v := by
  unfold rd; rw [List.getD_eq_getElem?_getD, show (i : Int).toNat = i by omega, List.getElem?_set_self (by omega)]; rfl
theorem rd_set_ne {xs : List Int} {i : Nat} {j : Int} (h : 0 ≤ j) (h' : (i : Int) ≠ j) (v : Int) : rd (xs.set i v) j = rd xs j := by
  unfold rd; rw [List.getD_eq_getElem?_getD, List.getD_eq_getElem?_getD, List.getElem?_set_ne (by omega)]
theorem val_take_set {xs : List Int} {i : Nat} (h : i < xs.length) (v : Int) : val ((xs.set i v).take (i + 1)) = val (xs.take i) + pw i * v := by
  rw [val_take_succ, take_set_le (Nat.le_refl _), rd_set_eq h]
theorem Lm.set {xs : List Int} (h : Lm xs) (i : Nat) {v : Int} (hv : 0 ≤ v ∧ v ≤ 4294967295) : Lm (xs.set i v) := by
  intro x hx
  rcases List.mem_or_eq_of_mem_set hx with hx | rfl
  ·exact h x hx
  ·exact hv
theorem take_zeros (n i : Nat) : val ((List.replicate n (0 : Int)).take i) = 0 := by
  rw [List.take_replicate]; exact val_zeros _
/-- A number as limbs. -/
def natL (n : Int) : List Int := if n ≤ 0 then [] else (n % 4294967296) :: natL (n / 4294967296)
termination_by n.toNat
decreasing_by omega
theorem natL_nil {n : Int} (h : n ≤ 0) : natL n = [] := by unfold natL; rw [if_pos h]
theorem natL_cons {n : Int} (h : 0 < n) : natL n = (n % 4294967296) :: natL (n / 4294967296) := by
  conv => lhs; unfold natL
  rw [if_neg (by omega)]
theorem natL_spec : ∀ (d : Nat) (n : Int), n.toNat ≤ d → Fm (natL n) ∧ (0 ≤ n → val (natL n) = n) := by
  intro d
  induction d with
  | zero => intro n hn; rw [natL_nil (by omega)]; exact ⟨Fm.nil, fun _ => by simp [val]; omega⟩
  | succ d ih =>
   intro n hn
   by_cases h : n ≤ 0
   ·rw [natL_nil h]; exact ⟨Fm.nil, fun _ => by simp [val]; omega⟩
   ·obtain ⟨h1, h2⟩ := ih (n / 4294967296) (by omega)
    have h2' := h2 (by omega)
    rw [natL_cons (by omega)]
    refine ⟨⟨Lm.cons (by omega) h1.1, ?_⟩, fun _ => by simp only [val]; omega⟩
    unfold trimL
    rw [h1.2, if_neg]
    rintro ⟨e1, e2⟩
    rw [e1] at h2'; simp only [val] at h2'; omega
theorem natL_fm (n : Int) : Fm (natL n) := (natL_spec n.toNat n (Nat.le_refl _)).1
theorem val_natL {n : Int} (h : 0 ≤ n) : val (natL n) = n := (natL_spec n.toNat n (Nat.le_refl _)).2 h
theorem Fm.natL {xs : List Int} (h : Fm xs) : xs = natL (val xs) := h.eq (natL_fm _) (val_natL (val_nonneg h.1)).symm
theorem trim_natL {xs : List Int} (h : Lm xs) : trimL xs = natL (val xs) := by rw [(Fm.of h).natL, val_trimL]
theorem natL_zero : natL 0 = [] := natL_nil (by omega)
theorem natL_inj {m n : Int} (h : 0 ≤ m) (h' : 0 ≤ n) (e : natL m = natL n) : m = n := by rw [← val_natL h, ← val_natL h', e]
theorem Fm.len_pw {xs : List Int} (h : Fm xs) (h0 : 0 < xs.length) : pw (xs.length - 1) ≤ val xs := by
  have e := val_take_succ xs (xs.length - 1)
  rw [show xs.length - 1 + 1 = xs.length by omega, List.take_length] at e
  have h1 : rd xs ((xs.length : Int) - 1) ≠ 0 := by
   rcases (Fm.iff h.1).1 h with h2 | h2
   ·omega
   ·exact h2
  rw [show (((xs.length - 1 : Nat)) : Int) = (xs.length : Int) - 1 by omega] at e
  have h2 := h.1.rd (i := (xs.length : Int) - 1)
  have h3 := val_nonneg (h.1.take (xs.length - 1))
  have h4 := pw_pos (xs.length - 1)
  have h5 := Int.mul_le_mul_of_nonneg_left (show (1 : Int) ≤ rd xs ((xs.length : Int) - 1) by omega) (show 0 ≤ pw (xs.length - 1) by omega)
  omega
theorem Fm.len_le {xs : List Int} (h : Fm xs) (n : Nat) : xs.length ≤ n ↔ val xs < pw n := by
  constructor
  ·intro hl
   have := val_lt_pw h.1; have := pw_le hl; omega
  ·intro hv
   by_cases h0 : xs.length ≤ n
   ·exact h0
   ·have := h.len_pw (by omega)
    have := pw_le (show n ≤ xs.length - 1 by omega)
    omega
theorem natL_len {m : Int} (h : 0 ≤ m) (n : Nat) : (natL m).length ≤ n ↔ m < pw n := by
  rw [(natL_fm m).len_le, val_natL h]
/-- How two numbers compare. -/
def cmpS (a b : Int) : Int := if a < b then -1 else if a = b then 0 else 1
theorem Fm.lt_of_len {xs ys : List Int} (h : Fm xs) (h' : Fm ys) (hl : xs.length < ys.length) : val xs < val ys := by
  have h1 := val_lt_pw h.1
  have h2 := h'.len_pw (by omega)
  have h3 := pw_le (show xs.length ≤ ys.length - 1 by omega)
  omega
theorem cmpS_step {V W P x y : Int} (hV : 0 ≤ V) (hW : 0 ≤ W) (hV' : V < P) (hW' : W < P) : cmpS (V + P * x) (W + P * y) = if x < y then -1 else if y < x then 1 else cmpS V W := by
  have hP : 0 ≤ P := by omega
  unfold cmpS
  by_cases h1 : x < y
  ·have := Int.mul_le_mul_of_nonneg_left (show x + 1 ≤ y by omega) hP
   rw [Int.mul_add] at this
   rw [if_pos h1, if_pos (by omega)]
  ·rw [if_neg h1]
   by_cases h2 : y < x
   ·have := Int.mul_le_mul_of_nonneg_left (show y + 1 ≤ x by omega) hP
    rw [Int.mul_add] at this
    rw [if_pos h2, if_neg (by omega), if_neg (by omega)]
   ·rw [if_neg h2]
    have : x = y := by omega
    subst this
    by_cases h3 : V < W
    ·rw [if_pos h3, if_pos (by omega)]
    ·rw [if_neg h3, if_neg (by omega)]
     by_cases h4 : V = W
     ·rw [if_pos h4, if_pos (by omega)]
     ·rw [if_neg h4, if_neg (by omega)]
theorem or_low {x y : Int} (hx : 0 ≤ x) (hx' : x ≤ 4294967295) (hy : 0 ≤ y) (hy' : y ≤ 4294967295) : Go.bits .or .u64 (y * 4294967296) x = y * 4294967296 + x := by
  obtain ⟨a, rfl⟩ := Int.eq_ofNat_of_zero_le hx
  obtain ⟨b, rfl⟩ := Int.eq_ofNat_of_zero_le hy
  have e : ((b : Int) * 4294967296) = ((2 ^ 32 * b : Nat) : Int) := by omega
  rw [e, Go.u64_or_nat _ _ (by omega) (by omega), ← Nat.two_pow_add_eq_or_of_lt (by omega)]
  omega
theorem or_high {x y : Int} (hx : 0 ≤ x) (hx' : x ≤ 4294967295) (hy : 0 ≤ y) (hy' : y ≤ 4294967295) : Go.bits .or .u64 x (y * 4294967296) = y * 4294967296 + x := by
  obtain ⟨a, rfl⟩ := Int.eq_ofNat_of_zero_le hx
  obtain ⟨b, rfl⟩ := Int.eq_ofNat_of_zero_le hy
  have e : ((b : Int) * 4294967296) = ((2 ^ 32 * b : Nat) : Int) := by omega
  rw [e, Go.u64_or_nat _ _ (by omega) (by omega), Nat.or_comm, ← Nat.two_pow_add_eq_or_of_lt (by omega)]
  omega
/- What the printed functions of layer 1 that form naturals come to: trim, Of, Formed, formed, fit. Conditions: lists of limbs, of fewer than 2^40 elements. -/
theorem trim_k : ∀ (n : Nat) (l : List Int), l.length = n → n < 1099511627776 → ∀ k, n < k → limb_trim.l0 k l = some (trimL l) := by
  intro n
  induction n with
  | zero =>
   intro l hl _ k hk
   obtain ⟨k, rfl⟩ : ∃ m, k = m + 1 := ⟨k - 1, by omega⟩
   simp only [limb_trim.l0]
   rw [if_neg (by omega), List.eq_nil_of_length_eq_zero hl]; rfl
  | succ n ih =>
   intro l hl hn k hk
   obtain ⟨k, rfl⟩ : ∃ m, k = m + 1 := ⟨k - 1, by omega⟩
   have hw : wrap64 ((l.length : Int) - 1) = (l.length : Int) - 1 := wi64 (by omega) (by omega)
   simp only [limb_trim.l0]
   rw [hw, if_pos (by omega), if_pos (by omega), if_pos (by omega), trimL_last (by omega)]
   by_cases h0 : rd l ((l.length : Int) - 1) = 0
   ·rw [if_pos h0, if_pos (by omega), if_pos h0]
    exact ih _ (by rw [List.length_take]; omega) (by omega) k (by omega)
   ·rw [if_neg h0, if_neg h0]
theorem trim_ev {l : List Int} (h : l.length < 1099511627776) {k : Nat} (hk : l.length < k) : limb_trim.f k l = some (trimL l) := trim_k _ l rfl h k hk
/-- A number as a natural. -/
def ofN (n : Int) : List Int := trimL [n % 4294967296, n / 4294967296 % 4294967296]
theorem of_ev (n : Int) {k : Nat} (hk : 2 < k) : limb_Of.f k n = some (ofN n) := by
  unfold limb_Of.f; rw [trim_ev (by simp) (by simpa using hk)]; rfl
theorem ofN_fm (n : Int) : Fm (ofN n) := Fm.of (Lm.cons (by omega) (Lm.cons (by omega) Lm.nil))
theorem ofN_val {n : Int} (h0 : 0 ≤ n) (h1 : n ≤ 18446744073709551615) : val (ofN n) = n := by
  unfold ofN; rw [val_trimL]; simp only [val]; omega
theorem ofN_len (n : Int) : (ofN n).length ≤ 2 := trimL_length _
/-- Is a list a natural: not too long, no nought at its end. -/
def fmB (l : List Int) : Bool := decide (l.length ≤ 400) && (decide (l.length = 0) || decide (rd l ((l.length : Int) - 1) ≠ 0))
theorem fmB_iff {l : List Int} (h : Lm l) : fmB l = true ↔ l.length ≤ 400 ∧ Fm l := by
  unfold fmB; rw [Fm.iff h]; simp
theorem Formed_ev {l : List Int} (h : l.length < 1099511627776) : limb_Formed.f l = some (fmB l) := by
  have hw : wrap64 ((l.length : Int) - 1) = (l.length : Int) - 1 := wi64 (by omega) (by omega)
  unfold limb_Formed.f fmB
  rw [hw]
  by_cases h1 : l.length ≤ 400
  ·rw [if_pos (by omega)]
   by_cases h2 : l.length = 0
   ·rw [if_pos (by omega)]; simp [h1, h2]
   ·rw [if_neg (by omega), if_pos (by omega), if_pos (by omega)]; simp [h1, h2, bne]; rfl
  ·rw [if_neg (by omega)]; simp [h1]
theorem index_ev : ∀ (d : Nat) (ls : List (List Int)) (k : Nat) (i : Int), 0 ≤ i → (ls.length : Int) - i = d → ls.length < 1099511627776 → (∀ l ∈ ls, l.length < 1099511627776) → d < k →
   ∃ r, slices_IndexFunc_limb_Nat_limb_Nat__limb_formed_1.l0 k ls (ls.length : Int) i = some r ∧ decide (r ≥ 0) = (ls.drop i.toNat).any (fun l => !fmB l) := by
  intro d
  induction d with
  | zero =>
   intro ls k i h0 hd _ _ hk
   obtain ⟨k, rfl⟩ : ∃ m, k = m + 1 := ⟨k - 1, by omega⟩
   refine ⟨-1, ?_, ?_⟩
   ·simp only [slices_IndexFunc_limb_Nat_limb_Nat__limb_formed_1.l0]; rw [if_neg (by omega)]
   ·rw [List.drop_eq_nil_of_le (by omega)]; rfl
  | succ d ih =>
   intro ls k i h0 hd hl hls hk
   obtain ⟨k, rfl⟩ : ∃ m, k = m + 1 := ⟨k - 1, by omega⟩
   have hi : i.toNat < ls.length := by omega
   have hrd : rd_L1 ls i = ls[i.toNat] := by unfold rd_L1; rw [List.getD_eq_getElem?_getD, List.getElem?_eq_getElem hi]; rfl
   have hdr : ls.drop i.toNat = ls[i.toNat] :: ls.drop (i + 1).toNat := by rw [List.drop_eq_getElem_cons hi, show (i + 1).toNat = i.toNat + 1 by omega]
   have hF : limb_formed_1.f (rd_L1 ls i) = some (!fmB (rd_L1 ls i)) := by
    unfold limb_formed_1.f; rw [Formed_ev (by rw [hrd]; exact hls _ (List.getElem_mem hi))]; rfl
   simp only [slices_IndexFunc_limb_Nat_limb_Nat__limb_formed_1.l0]
   rw [if_pos (by omega), if_pos h0, if_pos (by omega), hF]; simp only [Option.bind_some]
   rw [hdr, List.any_cons, ← hrd]
   cases hb : fmB (rd_L1 ls i) with
   | true =>
    obtain ⟨r, hr, h⟩ := ih ls k (i + 1) (by omega) (by omega) hl hls (by omega)
    refine ⟨r, ?_, ?_⟩
    ·rw [if_neg (by simp), wi64 (by omega) (by omega)]; exact hr
    ·rw [h]; rfl
   | false => exact ⟨i, by rw [if_pos (by simp)], by simp [h0]⟩
theorem not_any_not : ∀ ls : List (List Int), (!ls.any (fun l => !fmB l)) = ls.all fmB
  | [] => rfl
  | a :: b => by rw [List.any_cons, List.all_cons, ← not_any_not b]; cases fmB a <;> simp
theorem formed_ev {ls : List (List Int)} (hl : ls.length < 1099511627776) (hls : ∀ l ∈ ls, l.length < 1099511627776) {k : Nat} (hk : ls.length < k) : limb_formed.f k ls = some (ls.all fmB) := by
  obtain ⟨r, hr, h⟩ := index_ev ls.length ls k 0 (by omega) (by omega) hl hls hk
  unfold limb_formed.f slices_ContainsFunc_limb_Nat_limb_Nat__limb_formed_1.f slices_IndexFunc_limb_Nat_limb_Nat__limb_formed_1.f
  rw [hr]; simp only [Option.bind_some]; rw [h]
  exact congrArg some (not_any_not ls)
theorem formed2_ev {a b : List Int} (ha : a.length < 1099511627776) (hb : b.length < 1099511627776) {k : Nat} (hk : 2 < k) : limb_formed.f k [a, b] = some (fmB a && fmB b) := by
  rw [formed_ev (by simp) (by intro l hl; simp at hl; rcases hl with rfl | rfl <;> assumption) (by simpa using hk)]; simp
/-- A result that isn't too long. -/
def fitL (l : List Int) : List Int × Int := if (trimL l).length ≤ 400 then (trimL l, 0) else ([], 4)
/-- A number as a result that isn't too long. -/
def fitN (n : Int) : List Int × Int := if (natL n).length ≤ 400 then (natL n, 0) else ([], 4)
theorem fitL_val {l : List Int} (h : Lm l) : fitL l = fitN (val l) := by unfold fitL fitN; rw [trim_natL h]
theorem ofN_natL {n : Int} (h0 : 0 ≤ n) (h1 : n ≤ 18446744073709551615) : ofN n = natL n := by rw [(ofN_fm n).natL, ofN_val h0 h1]
theorem fmB_nat {l : List Int} (h : Lm l) (hb : fmB l = true) : l = natL (val l) ∧ l.length ≤ 400 ∧ Fm l := by
  have := (fmB_iff h).1 hb; exact ⟨this.2.natL, this.1, this.2⟩
theorem fmB_natL {n : Int} (h : (natL n).length ≤ 400) : fmB (natL n) = true := (fmB_iff (natL_fm n).1).2 ⟨h, natL_fm n⟩
/- What fit of layer 1 comes to. Conditions stand with it. -/
theorem fit_ev {l : List Int} (h : l.length < 1099511627776) {k : Nat} (hk : l.length < k) : limb_fit.f k l = some (fitL l) := by
  unfold limb_fit.f fitL; rw [trim_ev h hk]; simp only [Option.bind_some]
  by_cases h1 : (trimL l).length ≤ 400
  ·rw [if_neg (by omega), if_pos h1]
  ·rw [if_pos (by omega), if_neg h1]
/- What Add of layer 1 comes to: the sum, or its error. Conditions: lists of limbs, of fewer than 2^39 elements. -/
theorem add_step {P c x y V A W s : Int} (h : V + P * c = A + W) (hs : s = c + x + y) : V + P * (s % 4294967296) + (P * 4294967296) * (s / 4294967296) = A + P * x + (W + P * y) := by
  have := Int.emod_add_mul_ediv s 4294967296
  grind
theorem add_loop {x0 x1 : List Int} (h0 : Lm x0) (h1 : Lm x1) (hle : x1.length ≤ x0.length) (hb : x0.length < 549755813888) : ∀ (d i k : Nat) (out : List Int) (c : Int),
   i + d = x0.length → out.length = x0.length + 1 → Lm out → 0 ≤ c → c ≤ 1 → val (out.take i) + pw i * c = val (x0.take i) + val (x1.take i) → x0.length + 2 + d < k →
   limb_Add.l0 k x0 x1 out c (x0.length : Int) (i : Int) = some (fitN (val x0 + val x1)) := by
  intro d
  induction d with
  | zero =>
   intro i k out c hi hl hm hc0 hc1 hv hk
   obtain ⟨k, rfl⟩ : ∃ m, k = m + 1 := ⟨k - 1, by omega⟩
   obtain rfl : i = x0.length := by omega
   simp only [limb_Add.l0]
   rw [if_neg (by omega), if_pos (by omega), if_pos (by omega), show ((x0.length : Int)).toNat = x0.length by omega, Int.emod_eq_of_lt hc0 (by omega)]
   have hm' : Lm (out.set x0.length c) := hm.set _ ⟨hc0, by omega⟩
   have hv' : val (out.set x0.length c) = val x0 + val x1 := by
    have e := val_take_set (xs := out) (i := x0.length) (by omega) c
    rw [show (out.set x0.length c).take (x0.length + 1) = out.set x0.length c from List.take_of_length_le (by simp; omega)] at e
    rw [e, hv, List.take_length, List.take_of_length_le hle]
   rw [fit_ev (by simp; omega) (by simp; omega), fitL_val hm', hv']; rfl
  | succ d ih =>
   intro i k out c hi hl hm hc0 hc1 hv hk
   obtain ⟨k, rfl⟩ : ∃ m, k = m + 1 := ⟨k - 1, by omega⟩
   have hx := h0.rd (i := (i : Int)); have hy := h1.rd (i := (i : Int))
   simp only [limb_Add.l0]
   rw [if_pos (by omega), if_pos (by omega), if_pos (by omega), wsucc (by omega), show ((i : Int)).toNat = i by omega]
   have go : ∀ s : Int, s = c + rd x0 (i : Int) + rd x1 (i : Int) → limb_Add.l0 k x0 x1 (out.set i (s % 4294967296)) (s / 4294967296) (x0.length : Int) ((i + 1 : Nat) : Int) = some (fitN (val x0 + val x1)) := by
    intro s hs
    have e1 : (out.set i (s % 4294967296)).length = x0.length + 1 := by rw [List.length_set]; exact hl
    have e2 : val ((out.set i (s % 4294967296)).take (i + 1)) + pw (i + 1) * (s / 4294967296) = val (x0.take (i + 1)) + val (x1.take (i + 1)) := by
     rw [val_take_set (by omega), val_take_succ x0, val_take_succ x1, pw_succ]
     exact add_step hv hs
    have e3 : 0 ≤ s / 4294967296 ∧ s / 4294967296 ≤ 1 := by omega
    have e4 : i + 1 + d = x0.length := by omega
    have e5 : x0.length + 2 + d < k := by omega
    exact ih (i + 1) k _ _ e4 e1 (hm.set _ (by omega)) e3.1 e3.2 e2 e5
   by_cases hb1 : (i : Int) < (x1.length : Int)
   ·rw [if_pos hb1, if_pos (by omega), wu (n := rd x0 (i : Int)) (by omega) (by omega), wu (n := rd x1 (i : Int)) (by omega) (by omega), wu (n := c + rd x0 (i : Int)) (by omega) (by omega), wu (by omega) (by omega)]
    exact go _ rfl
   ·rw [if_neg hb1, if_pos (by omega), wu (n := rd x0 (i : Int)) (by omega) (by omega), wu (by omega) (by omega)]
    exact go _ (by rw [rd_past (xs := x1) (by omega)]; omega)
/-- The sum of two lists, or the error. -/
def addS (a b : List Int) : List Int × Int := if fmB a = true ∧ fmB b = true then fitN (val a + val b) else ([], 1)
theorem add_j {a b : List Int} (ha : Lm a) (hb : Lm b) (hle : b.length ≤ a.length) (hl : a.length < 549755813888) {k : Nat} (hk : 2 * a.length + 5 < k) : limb_Add.j0 k a b = some (fitN (val a + val b)) := by
  obtain ⟨k, rfl⟩ : ∃ m, k = m + 1 := ⟨k - 1, by omega⟩
  simp only [limb_Add.j0]
  rw [wi64 (n := (a.length : Int) + 1) (by omega) (by omega), if_pos (by omega), if_pos (by omega), show ((a.length : Int) + 1).toNat = a.length + 1 by omega]
  have := add_loop ha hb hle hl a.length 0 k (List.replicate (a.length + 1) 0) 0 (by omega) (by simp) (Lm.zeros _) (by omega) (by omega) (by simp [val]) (by omega)
  exact this
theorem add_ev {a b : List Int} (ha : Lm a) (hb : Lm b) (hal : a.length < 549755813888) (hbl : b.length < 549755813888) {k : Nat} (hk : 2 * a.length + 2 * b.length + 10 < k) : limb_Add.f k a b = some (addS a b) := by
  unfold limb_Add.f addS
  rw [formed2_ev (by omega) (by omega) (by omega)]; simp only [Option.bind_some]
  cases hfa : fmB a <;> cases hfb : fmB b <;> simp
  by_cases h : a.length < b.length
  ·rw [if_pos (by omega), add_j hb ha (by omega) hbl (by omega), Int.add_comm]
  ·rw [if_neg (by omega), add_j ha hb (by omega) hal (by omega)]
/- What compare and Cmp of layer 1 come to, the reference's too. Conditions: lists of limbs, of fewer than 2^39 elements. -/
theorem cmp_loop {xs ys : List Int} (hx : Lm xs) (hy : Lm ys) (hl : xs.length < 549755813888) (hl' : ys.length < 549755813888) : ∀ (n k : Nat), n ≤ xs.length → n ≤ ys.length → n < k →
   limb_compare.l0 k xs ys ((n : Int) - 1) = some (cmpS (val (xs.take n)) (val (ys.take n))) := by
  intro n
  induction n with
  | zero =>
   intro k _ _ hk
   obtain ⟨k, rfl⟩ : ∃ m, k = m + 1 := ⟨k - 1, by omega⟩
   simp only [limb_compare.l0]; rw [if_neg (by omega)]; simp [val, cmpS]
  | succ n ih =>
   intro k h1 h2 hk
   obtain ⟨k, rfl⟩ : ∃ m, k = m + 1 := ⟨k - 1, by omega⟩
   have e : (((n + 1 : Nat) : Int) - 1) = (n : Int) := by omega
   simp only [limb_compare.l0]
   rw [e, if_pos (by omega), if_pos (by omega), if_pos (by omega), if_pos (by omega), wi64 (by omega) (by omega), ih k (by omega) (by omega) (by omega), val_take_succ, val_take_succ]
   have a1 := val_nonneg (hx.take n); have a2 := val_nonneg (hy.take n)
   have a3 := val_lt_pw (hx.take n); have a4 := val_lt_pw (hy.take n)
   rw [List.length_take, Nat.min_eq_left (by omega)] at a3 a4
   rw [cmpS_step a1 a2 a3 a4]
   by_cases h3 : rd xs (n : Int) < rd ys (n : Int)
   ·rw [if_pos h3, if_pos h3]
   ·rw [if_neg h3, if_neg h3]
    by_cases h4 : rd ys (n : Int) < rd xs (n : Int)
    ·rw [if_pos (by omega), if_pos h4]
    ·rw [if_neg (by omega), if_neg h4]
theorem compare_ev {a b : List Int} (ha : Fm a) (hb : Fm b) (hl : a.length < 549755813888) (hl' : b.length < 549755813888) {k : Nat} (hk : a.length < k) : limb_compare.f k a b = some (cmpS (val a) (val b)) := by
  unfold limb_compare.f
  by_cases h1 : a.length < b.length
  ·have := ha.lt_of_len hb h1
   rw [if_pos (by omega)]; unfold cmpS; rw [if_pos this]
  ·rw [if_neg (by omega)]
   by_cases h2 : b.length < a.length
   ·have := hb.lt_of_len ha h2
    rw [if_pos (by omega)]; unfold cmpS; rw [if_neg (by omega), if_neg (by omega)]
   ·rw [if_neg (by omega), wi64 (by omega) (by omega)]
    have := cmp_loop ha.1 hb.1 hl hl' a.length k (by omega) (by omega) hk
    rw [this, List.take_length, List.take_of_length_le (by omega)]
/- What Sub of layer 1 comes to: the difference, or its error. Conditions: lists of limbs, of fewer than 2^39 elements. -/
theorem sub_step {P c x y V A W v c' : Int} (h : V = A - W + P * c) (hs : v = x - c - y + 4294967296 * c') : V + P * v = A + P * x - (W + P * y) + (P * 4294967296) * c' := by grind
theorem clone_ev {l : List Int} (h : l.length < 1099511627776) : slices_Clone_limb_Nat_uint32.f l = some l := by
  unfold slices_Clone_limb_Nat_uint32.f; simp only [Option.bind_some]; rw [if_pos (by simp; omega)]; simp
theorem sub_loop {a b : List Int} (ha : Lm a) (hb : Lm b) (hv0 : val b ≤ val a) (hbl : b.length ≤ a.length) (hl : a.length < 549755813888) : ∀ (d i k : Nat) (out : List Int) (c : Int),
   i + d = a.length → out.length = a.length → Lm out → (∀ j : Int, (i : Int) ≤ j → rd out j = rd a j) → 0 ≤ c → c ≤ 1 → val (out.take i) = val (a.take i) - val (b.take i) + pw i * c → a.length + d + 2 < k →
   limb_Sub.l0 k b out c (a.length : Int) (i : Int) = some (natL (val a - val b), 0) := by
  intro d
  induction d with
  | zero =>
   intro i k out c hi hol hm hsame hc0 hc1 hv hk
   obtain ⟨k, rfl⟩ : ∃ m, k = m + 1 := ⟨k - 1, by omega⟩
   obtain rfl : i = a.length := by omega
   simp only [limb_Sub.l0]
   rw [if_neg (by omega), trim_ev (by omega) (by omega), trim_natL hm]; simp only [Option.bind_some]
   have e : val out = val a - val b := by
    rw [List.take_of_length_le (show out.length ≤ a.length by omega), List.take_length, List.take_of_length_le hbl] at hv
    have h1 := val_lt_pw hm
    rw [hol] at h1
    have h2 : c = 0 := by
     rcases (show c = 0 ∨ c = 1 by omega) with h | h
     ·exact h
     ·subst h; omega
    subst h2; omega
   rw [e]
  | succ d ih =>
   intro i k out c hi hol hm hsame hc0 hc1 hv hk
   obtain ⟨k, rfl⟩ : ∃ m, k = m + 1 := ⟨k - 1, by omega⟩
   have hx := ha.rd (i := (i : Int)); have hy := hb.rd (i := (i : Int))
   have go : ∀ s c' : Int, s = rd a (i : Int) - c - rd b (i : Int) → 0 ≤ c' → c' ≤ 1 → s % 4294967296 = s + 4294967296 * c' → limb_Sub.l0 k b (out.set i (s % 4294967296)) c' (a.length : Int) ((i + 1 : Nat) : Int) = some (natL (val a - val b), 0) := by
    intro s c' hs h0 h1 hm2
    have e1 : (out.set i (s % 4294967296)).length = a.length := by rw [List.length_set]; exact hol
    have e2 : val ((out.set i (s % 4294967296)).take (i + 1)) = val (a.take (i + 1)) - val (b.take (i + 1)) + pw (i + 1) * c' := by
     rw [val_take_set (by omega), val_take_succ a, val_take_succ b, pw_succ]
     exact sub_step hv (by omega)
    have e3 : ∀ j : Int, ((i + 1 : Nat) : Int) ≤ j → rd (out.set i (s % 4294967296)) j = rd a j := by
     intro j hj; rw [rd_set_ne (by omega) (by omega)]; exact hsame j (by omega)
    have e4 : i + 1 + d = a.length := by omega
    have e5 : a.length + d + 2 < k := by omega
    exact ih (i + 1) k _ _ e4 e1 (hm.set _ (by omega)) e3 h0 h1 e2 e5
   simp only [limb_Sub.l0]
   rw [if_pos (by omega), if_pos (by omega), if_pos (by omega), wsucc (by omega), show ((i : Int)).toNat = i by omega, hsame (i : Int) (by omega), wi64 (n := rd a (i : Int)) (by omega) (by omega), wi64 (n := rd a (i : Int) - c) (by omega) (by omega)]
   by_cases hb1 : (i : Int) < (b.length : Int)
   ·rw [if_pos hb1, wi64 (n := rd b (i : Int)) (by omega) (by omega), wi64 (by omega) (by omega)]; simp only [Option.bind_some]
    by_cases hn : rd a (i : Int) - c - rd b (i : Int) < 0
    ·rw [if_pos hn]; exact go _ 1 rfl (by omega) (by omega) (by omega)
    ·rw [if_neg hn]; exact go _ 0 rfl (by omega) (by omega) (by omega)
   ·rw [if_neg hb1]; simp only [Option.bind_some]
    have hz := rd_past (xs := b) (i := (i : Int)) (by omega)
    by_cases hn : rd a (i : Int) - c < 0
    ·rw [if_pos hn]; exact go _ 1 (by omega) (by omega) (by omega) (by omega)
    ·rw [if_neg hn]; exact go _ 0 (by omega) (by omega) (by omega) (by omega)
/-- The difference of two lists, or the error. -/
def subS (a b : List Int) : List Int × Int := if fmB a = true ∧ fmB b = true then (if val a < val b then ([], 3) else (natL (val a - val b), 0)) else ([], 1)
theorem sub_ev {a b : List Int} (ha : Lm a) (hb : Lm b) (hal : a.length < 549755813888) (hbl : b.length < 549755813888) {k : Nat} (hk : 2 * a.length + 10 < k) : limb_Sub.f k a b = some (subS a b) := by
  unfold limb_Sub.f subS
  rw [formed2_ev (by omega) (by omega) (by omega)]; simp only [Option.bind_some]
  cases hfa : fmB a <;> cases hfb : fmB b <;> simp
  have fa := ((fmB_iff ha).1 hfa).2; have fb := ((fmB_iff hb).1 hfb).2
  rw [compare_ev fa fb hal hbl (by omega)]; simp only [Option.bind_some]
  by_cases h : val a < val b
  ·rw [if_pos (by unfold cmpS; rw [if_pos h]; omega), if_pos h]
  ·rw [if_neg (by unfold cmpS; rw [if_neg h]; split <;> omega), if_neg h, clone_ev (by omega)]; simp only [Option.bind_some]
   have hle : b.length ≤ a.length := by
    by_cases h2 : a.length < b.length
    ·have := fa.lt_of_len fb h2; omega
    ·omega
   exact sub_loop ha hb (by omega) hle hal a.length 0 k a 0 (by omega) rfl ha (fun _ _ => rfl) (by omega) (by omega) (by simp [val]) (by omega)
/- What Mul of layer 1 comes to: the product, or its error. Conditions: lists of limbs, of fewer than 2^38 elements. -/
theorem mul_step {P Q c x y o V U W s : Int} (h : V + P * Q * c = U + P * x * W) (hs : s = c + x * y + o) : V + P * Q * (s % 4294967296) + (P * Q * 4294967296) * (s / 4294967296) = U + P * Q * o + P * x * (W + Q * y) := by
  have := Int.emod_add_mul_ediv s 4294967296
  grind
theorem mul_le {x y : Int} (hx : 0 ≤ x ∧ x ≤ 4294967295) (hy : 0 ≤ y ∧ y ≤ 4294967295) : 0 ≤ x * y ∧ x * y ≤ 18446744065119617025 := by
  have h1 := Int.mul_nonneg hx.1 hy.1
  have h2 := Int.mul_le_mul hx.2 hy.2 hy.1 (by omega : (0 : Int) ≤ 4294967295)
  omega
theorem mul_inner {a b : List Int} (hb : Lm b) {x : Int} (hx : 0 ≤ x ∧ x ≤ 4294967295) (hlb : b.length < 274877906944) (hla : a.length < 274877906944) {i n : Nat} (hin : i < n) (hn : n = a.length) {out0 : List Int} (hl0 : out0.length = n + b.length) : ∀ (d j k : Nat) (out : List Int) (c : Int),
   j + d = b.length → out.length = n + b.length → Lm out → (∀ q : Int, ((i + j : Nat) : Int) ≤ q → rd out q = rd out0 q) → 0 ≤ c → c ≤ 4294967295 →
   val (out.take (i + j)) + pw i * pw j * c = val (out0.take (i + j)) + pw i * x * val (b.take j) → d < k →
   ∃ (k' : Nat) (out' : List Int), k ≤ k' + d + 1 ∧ k' < k ∧ out'.length = n + b.length ∧ Lm out' ∧ val (out'.take (i + b.length + 1)) = val (out0.take (i + b.length)) + pw i * x * val b ∧
    limb_Mul.l1 k b out (i : Int) x c a (n : Int) (i : Int) b (b.length : Int) (j : Int) = limb_Mul.l0 k' b out' a (n : Int) ((i + 1 : Nat) : Int) := by
  intro d
  induction d with
  | zero =>
   intro j k out c hj hol hm hsame hc0 hc1 hv hk
   obtain ⟨k, rfl⟩ : ∃ m, k = m + 1 := ⟨k - 1, by omega⟩
   obtain rfl : j = b.length := by omega
   refine ⟨k, out.set (i + b.length) c, by omega, by omega, by rw [List.length_set]; exact hol, hm.set _ ⟨hc0, hc1⟩, ?_, ?_⟩
   ·rw [val_take_set (by omega), pw_add, hv, List.take_length]
   ·simp only [limb_Mul.l1]
    rw [if_neg (by omega), wi64 (n := (i : Int) + (b.length : Int)) (by omega) (by omega), if_pos (by omega), if_pos (by omega), wsucc (by omega), Int.emod_eq_of_lt hc0 (by omega), show ((i : Int) + (b.length : Int)).toNat = i + b.length by omega]
  | succ d ih =>
   intro j k out c hj hol hm hsame hc0 hc1 hv hk
   obtain ⟨k, rfl⟩ : ∃ m, k = m + 1 := ⟨k - 1, by omega⟩
   have hy := hb.rd (i := (j : Int))
   have ho := hm.rd (i := ((i + j : Nat) : Int))
   have hxy := mul_le hx hy
   generalize hp : x * rd b (j : Int) = p at hxy
   have e1 : ∀ s : Int, (out.set (i + j) (s % 4294967296)).length = n + b.length := fun s => by rw [List.length_set]; exact hol
   have e2 : ∀ s : Int, s = c + p + rd out ((i + j : Nat) : Int) → val ((out.set (i + j) (s % 4294967296)).take (i + (j + 1))) + pw i * pw (j + 1) * (s / 4294967296) = val (out0.take (i + (j + 1))) + pw i * x * val (b.take (j + 1)) := by
    intro s hs
    rw [show i + (j + 1) = i + j + 1 by omega, val_take_set (by omega), val_take_succ out0, val_take_succ b, pw_add, pw_succ, ← hsame _ (Int.le_refl _)]
    have := mul_step hv (show s = c + x * rd b (j : Int) + rd out ((i + j : Nat) : Int) by omega)
    rw [show pw i * (pw j * 4294967296) = pw i * pw j * 4294967296 by grind]
    exact this
   have e3 : ∀ s : Int, ∀ q : Int, ((i + (j + 1) : Nat) : Int) ≤ q → rd (out.set (i + j) (s % 4294967296)) q = rd out0 q := by
    intro s q hq; rw [rd_set_ne (by omega) (by omega)]; exact hsame q (by omega)
   obtain ⟨k', out', g1, g2, g3, g4, g5, g6⟩ := ih (j + 1) k (out.set (i + j) ((c + p + rd out ((i + j : Nat) : Int)) % 4294967296)) ((c + p + rd out ((i + j : Nat) : Int)) / 4294967296) (by omega) (e1 _) (hm.set _ (by omega)) (e3 _) (by omega) (by omega) (e2 _ rfl) (by omega)
   refine ⟨k', out', by omega, by omega, g3, g4, g5, ?_⟩
   rw [← g6]
   simp only [limb_Mul.l1]
   rw [if_pos (by omega), if_pos (by omega), if_pos (by omega), wi64 (n := (i : Int) + (j : Int)) (by omega) (by omega), if_pos (by omega), if_pos (by omega), wsucc (by omega), show (i : Int) + (j : Int) = ((i + j : Nat) : Int) by omega, wu (n := x) (by omega) (by omega), wu (n := rd b (j : Int)) (by omega) (by omega), hp, wu (n := p) (by omega) (by omega), wu (n := rd out ((i + j : Nat) : Int)) (by omega) (by omega), wu (n := p + rd out ((i + j : Nat) : Int)) (by omega) (by omega), wu (by omega) (by omega), show (((i + j : Nat) : Int)).toNat = i + j by omega, show c + (p + rd out ((i + j : Nat) : Int)) = c + p + rd out ((i + j : Nat) : Int) by omega]
theorem mul_outer {a b : List Int} (ha : Lm a) (hb : Lm b) (hlb : b.length < 274877906944) (hla : a.length < 274877906944) : ∀ (d i k : Nat) (out : List Int),
   i + d = a.length → out.length = a.length + b.length → Lm out → val (out.take (i + b.length)) = val (a.take i) * val b → (d + 1) * (b.length + 2) + a.length + b.length + 2 < k →
   limb_Mul.l0 k b out a (a.length : Int) (i : Int) = some (fitN (val a * val b)) := by
  intro d
  induction d with
  | zero =>
   intro i k out hi hol hm hv hk
   obtain ⟨k, rfl⟩ : ∃ m, k = m + 1 := ⟨k - 1, by omega⟩
   obtain rfl : i = a.length := by omega
   simp only [limb_Mul.l0]
   rw [if_neg (by omega), fit_ev (by omega) (by omega), fitL_val hm]; simp only [Option.bind_some]
   rw [List.take_of_length_le (by omega), List.take_length] at hv
   rw [hv]
  | succ d ih =>
   intro i k out hi hol hm hv hk
   obtain ⟨k, rfl⟩ : ∃ m, k = m + 1 := ⟨k - 1, by omega⟩
   have hx := ha.rd (i := (i : Int))
   have hmul : (d + 1 + 1) * (b.length + 2) = (d + 1) * (b.length + 2) + (b.length + 2) := by rw [Nat.add_mul]; omega
   obtain ⟨k', out', g1, g2, g3, g4, g5, g6⟩ := mul_inner (a := a) hb hx hlb hla (i := i) (n := a.length) (by omega) rfl (out0 := out) hol b.length 0 k out 0 (by omega) hol hm (fun _ _ => rfl) (by omega) (by omega) (by simp [val]) (by omega)
   simp only [limb_Mul.l0]
   rw [if_pos (by omega), if_pos (by omega), if_pos (by omega)]
   have g6' : limb_Mul.l1 k b out (i : Int) (rd a (i : Int)) 0 a (a.length : Int) (i : Int) b (b.length : Int) 0 = limb_Mul.l0 k' b out' a (a.length : Int) ((i + 1 : Nat) : Int) := g6
   rw [g6']
   refine ih (i + 1) k' out' (by omega) g3 g4 ?_ (by omega)
   rw [show i + 1 + b.length = i + b.length + 1 by omega, g5, hv, val_take_succ]
   grind
/-- The product of two lists, or the error. -/
def mulS (a b : List Int) : List Int × Int := if fmB a = true ∧ fmB b = true then fitN (val a * val b) else ([], 1)
theorem mul_ev {a b : List Int} (ha : Lm a) (hb : Lm b) (hal : a.length < 274877906944) (hbl : b.length < 274877906944) {k : Nat} (hk : (a.length + 1) * (b.length + 2) + a.length + b.length + 10 < k) : limb_Mul.f k a b = some (mulS a b) := by
  unfold limb_Mul.f mulS
  rw [formed2_ev (by omega) (by omega) (by omega)]; simp only [Option.bind_some]
  cases hfa : fmB a <;> cases hfb : fmB b <;> simp
  rw [wi64 (n := (a.length : Int) + (b.length : Int)) (by omega) (by omega)]
  refine ⟨by omega, by omega, ?_⟩
  rw [show ((a.length : Int) + (b.length : Int)).toNat = a.length + b.length by omega]
  exact mul_outer ha hb hbl hal a.length 0 k (List.replicate (a.length + b.length) 0) (by omega) (by simp) (Lm.zeros _) (by rw [take_zeros]; simp [val]) (by omega)
/- What small, shift and unshift of layer 1 come to. Conditions: lists of limbs, of fewer than 2^38 elements; a shift by at most 31 bits. -/
/-- Powers of two. -/
def p2 (n : Nat) : Int := 2 ^ n
theorem p2_nat (n : Nat) : p2 n = ((2 ^ n : Nat) : Int) := by unfold p2; simp
theorem p2_pos (n : Nat) : 0 < p2 n := by rw [p2_nat]; have := Nat.pow_pos (n := n) (show 0 < 2 by omega); omega
theorem p2_add (m n : Nat) : p2 (m + n) = p2 m * p2 n := by unfold p2; rw [Int.pow_add]
theorem p2_succ (n : Nat) : p2 (n + 1) = 2 * p2 n := by unfold p2; rw [Int.pow_succ]; omega
theorem p2_le {m n : Nat} (h : m ≤ n) : p2 m ≤ p2 n := by
  rw [p2_nat, p2_nat]; exact Int.ofNat_le.mpr (Nat.pow_le_pow_right (by omega) h)
theorem p2_31 {s : Nat} (h : s ≤ 31) : p2 s ≤ 2147483648 := by
  have := p2_le h; rw [show p2 31 = 2147483648 by decide +kernel] at this; exact this
theorem p2_32 {s : Nat} (h : s ≤ 32) : p2 s * p2 (32 - s) = 4294967296 := by
  rw [← p2_add, show s + (32 - s) = 32 by omega]; decide +kernel
theorem p2_pw (n : Nat) : p2 (32 * n) = pw n := by
  induction n with
  | zero => rw [pw_zero]; decide +kernel
  | succ n ih => rw [show 32 * (n + 1) = 32 * n + 32 by omega, p2_add, ih, pw_succ, show p2 32 = 4294967296 by decide +kernel]
theorem shl_u64 {x : Int} {s : Nat} (hx : 0 ≤ x ∧ x ≤ 4294967295) (hs : s ≤ 31) : shl .u64 x (s : Int) = x * p2 s := by
  unfold shl
  rw [show min ((s : Int)).toNat IntKind.u64.bits = s by simp [IntKind.bits]; omega]
  have h1 := p2_31 hs; have h2 := p2_pos s
  have h3 := Int.mul_le_mul hx.2 h1 (by omega) (by omega : (0 : Int) ≤ 4294967295)
  have h4 := Int.mul_nonneg hx.1 (show 0 ≤ p2 s by omega)
  exact wu (n := x * 2 ^ s) h4 (Int.le_trans h3 (by omega))
theorem shr_nat {k : IntKind} {x : Int} {s : Nat} (hs : s ≤ k.bits) : shr k x (s : Int) = x / p2 s := by
  unfold shr p2; rw [show min ((s : Int)).toNat k.bits = s by omega]
theorem or32 {c y : Int} {s : Nat} (hs : s ≤ 32) (hc0 : 0 ≤ c) (hc : c < p2 s) (hy0 : 0 ≤ y) (hy : y ≤ 4294967295) (hd : y % p2 s = 0) : Go.bits .or .u32 c y = c + y := by
  obtain ⟨c', rfl⟩ := Int.eq_ofNat_of_zero_le hc0
  obtain ⟨y', rfl⟩ := Int.eq_ofNat_of_zero_le hy0
  rw [p2_nat] at hc hd
  have hc2 : c' < 2 ^ s := by omega
  have hd2 : y' % 2 ^ s = 0 := by
   have : ((y' % 2 ^ s : Nat) : Int) = 0 := by rw [Int.natCast_emod]; exact hd
   omega
  obtain ⟨t, rfl⟩ : ∃ t, y' = 2 ^ s * t := ⟨y' / 2 ^ s, by have := Nat.div_add_mod y' (2 ^ s); omega⟩
  have h32 : 2 ^ s ≤ 2 ^ 32 := Nat.pow_le_pow_right (by omega) hs
  rw [Go.u32_or_nat _ _ (by omega) (by omega), Nat.or_comm, ← Nat.two_pow_add_eq_or_of_lt hc2]
  omega
/- the one-limb quotient -/
theorem small_step {b D Q R x t q : Int} (hD : D = b * Q + R) (ht : t = R * 4294967296 + x) (hq : t = b * q + t % b) : x + 4294967296 * D = b * (q + 4294967296 * Q) + t % b := by grind
theorem small_loop {a : List Int} (ha : Lm a) {b : Int} (hb0 : 0 < b) (hb1 : b ≤ 4294967295) (hl : a.length < 274877906944) : ∀ (i k : Nat) (out : List Int) (r : Int),
   i ≤ a.length → out.length = a.length → Lm out → 0 ≤ r → r < b → val (a.drop i) = b * val (out.drop i) + r → a.length + i + 3 < k →
   limb_small.l0 k a b out r ((i : Int) - 1) = some (natL (val a / b), natL (val a % b)) := by
  intro i
  induction i with
  | zero =>
   intro k out r hi hol hm hr0 hr1 hv hk
   obtain ⟨k, rfl⟩ : ∃ m, k = m + 1 := ⟨k - 1, by omega⟩
   simp only [limb_small.l0]
   rw [if_neg (by omega), trim_ev (by omega) (by omega), trim_natL hm]; simp only [Option.bind_some]
   rw [trim_ev (by simp) (by simp; omega), Int.emod_eq_of_lt hr0 (by omega), trim_natL (Lm.cons (by omega) Lm.nil)]; simp only [Option.bind_some]
   rw [List.drop_zero, List.drop_zero] at hv
   have hq : val a / b = val out := by
    rw [hv, Int.add_ediv_of_dvd_left ⟨_, rfl⟩, Int.mul_ediv_cancel_left _ (by omega), Int.ediv_eq_zero_of_lt hr0 hr1]; omega
   have hr : val a % b = r := by
    rw [hv, Int.add_comm, Int.add_mul_emod_self_left, Int.emod_eq_of_lt hr0 hr1]
   rw [hq, hr]; simp [val]
  | succ i ih =>
   intro k out r hi hol hm hr0 hr1 hv hk
   obtain ⟨k, rfl⟩ : ∃ m, k = m + 1 := ⟨k - 1, by omega⟩
   have hx := ha.rd (i := (i : Int))
   have e0 : (((i + 1 : Nat) : Int) - 1) = (i : Int) := by omega
   have hR : 0 ≤ r * 4294967296 ∧ r * 4294967296 ≤ 18446744069414584320 := by omega
   have hor := or_low hx.1 hx.2 hr0 (show r ≤ 4294967295 by omega)
   simp only [limb_small.l0]
   rw [e0, if_pos (by omega), if_pos (by omega), if_pos (by omega), wu (n := b) (by omega) (by omega), if_neg (by omega), if_pos (by omega), wu (n := r * 4294967296) (by omega) (by omega), wu (n := rd a (i : Int)) (by omega) (by omega), hor, show ((i : Int)).toNat = i by omega, wi64 (n := (i : Int) - 1) (by omega) (by omega)]
   obtain ⟨t, ht⟩ : ∃ t, t = r * 4294967296 + rd a (i : Int) := ⟨_, rfl⟩
   rw [← ht, Int.tdiv_eq_ediv_of_nonneg (by omega), Int.tmod_eq_emod_of_nonneg (by omega)]
   have hm0 := Int.emod_nonneg t (show b ≠ 0 by omega)
   have hm1 := Int.emod_lt_of_pos t hb0
   have hd0 := Int.ediv_nonneg (show 0 ≤ t by omega) (show 0 ≤ b by omega)
   have hda := Int.mul_ediv_add_emod t b
   have hq1 : t / b ≤ 4294967295 := by
    have h1 : t / b < 4294967296 := by
     apply Int.ediv_lt_of_lt_mul hb0
     have := Int.mul_le_mul_of_nonneg_right (show r + 1 ≤ b by omega) (show (0 : Int) ≤ 4294967296 by omega)
     rw [Int.add_mul] at this
     rw [Int.mul_comm 4294967296 b]; omega
    omega
   rw [wu (n := t / b) hd0 (by omega), Int.emod_eq_of_lt hd0 (by omega)]
   refine ih k (out.set i (t / b)) (t % b) (by omega) (by simp; omega) (hm.set _ ⟨hd0, hq1⟩) hm0 hm1 ?_ (by omega)
   have d1 := drop_rd (xs := a) (i := (i : Int)) (by omega) (by omega)
   have d2 := drop_rd (xs := out.set i (t / b)) (i := (i : Int)) (by omega) (by simp; omega)
   rw [show ((i : Int)).toNat = i by omega, show ((i : Int) + 1).toNat = i + 1 by omega] at d1 d2
   have d3 : (out.set i (t / b)).drop (i + 1) = out.drop (i + 1) := List.drop_set_of_lt (by omega)
   rw [rd_set_eq (by omega), d3] at d2
   rw [d1, d2]; simp only [val]
   exact small_step hv ht hda.symm
theorem small_ev {a : List Int} (ha : Lm a) {b : Int} (hb0 : 0 < b) (hb1 : b ≤ 4294967295) (hl : a.length < 274877906944) {k : Nat} (hk : 2 * a.length + 3 < k) : limb_small.f k a b = some (natL (val a / b), natL (val a % b)) := by
  unfold limb_small.f
  rw [if_pos (by omega), if_pos (by omega), wi64 (n := (a.length : Int) - 1) (by omega) (by omega), show ((a.length : Int)).toNat = a.length by omega]
  refine small_loop ha hb0 hb1 hl a.length k _ 0 (by omega) (by simp) (Lm.zeros _) (by omega) hb0 ?_ (by omega)
  rw [List.drop_eq_nil_of_le (by omega), List.drop_eq_nil_of_le (by simp)]; simp [val]
/- shift -/
theorem shift_step {V P c A p x y l h : Int} (hV : V + P * c = A * p) (hy : y = x * p) (hl : y = l + 4294967296 * h) : V + P * (c + l) + P * 4294967296 * h = (A + P * x) * p := by grind
theorem shift_loop {a : List Int} (ha : Lm a) {s : Nat} (hs : s ≤ 31) (hl : a.length < 274877906944) : ∀ (d i k : Nat) (out : List Int),
   i + d = a.length → out.length = a.length + 1 → Lm out → rd out (i : Int) < p2 s → val (out.take i) + pw i * rd out (i : Int) = val (a.take i) * p2 s → d < k →
   ∃ out', limb_shift.l0 k (s : Int) out a (a.length : Int) (i : Int) = some out' ∧ out'.length = a.length + 1 ∧ Lm out' ∧ val out' = val a * p2 s := by
  intro d
  induction d with
  | zero =>
   intro i k out hi hol hm hc hv hk
   obtain ⟨k, rfl⟩ : ∃ m, k = m + 1 := ⟨k - 1, by omega⟩
   obtain rfl : i = a.length := by omega
   refine ⟨out, ?_, hol, hm, ?_⟩
   ·simp only [limb_shift.l0]; rw [if_neg (by omega)]
   ·have e := val_take_succ out a.length
    rw [List.take_of_length_le (by omega), hv, List.take_length] at e; exact e
  | succ d ih =>
   intro i k out hi hol hm hc hv hk
   obtain ⟨k, rfl⟩ : ∃ m, k = m + 1 := ⟨k - 1, by omega⟩
   have hx := ha.rd (i := (i : Int)); have ho := hm.rd (i := (i : Int))
   have hp0 := p2_pos s; have hp1 := p2_31 hs; have hpp := p2_32 (show s ≤ 32 by omega)
   obtain ⟨x, hxe⟩ : ∃ x, x = rd a (i : Int) := ⟨_, rfl⟩
   rw [← hxe] at hx
   obtain ⟨y, hye⟩ : ∃ y, y = x * p2 s := ⟨_, rfl⟩
   have hy0 : 0 ≤ y := by rw [hye]; exact Int.mul_nonneg hx.1 (by omega)
   have hy1 : y ≤ 4294967295 * p2 s := by rw [hye]; exact Int.mul_le_mul_of_nonneg_right hx.2 (by omega)
   have hlow : (y % 4294967296) % p2 s = 0 := by
    have hdvd : p2 s ∣ (4294967296 : Int) := ⟨p2 (32 - s), hpp.symm⟩
    rw [Int.emod_emod_of_dvd _ hdvd, hye, Int.mul_emod_left]
   have hhi : y / 4294967296 < p2 s := by
    apply Int.ediv_lt_of_lt_mul (by omega); omega
   have hor := or32 (c := rd out (i : Int)) (y := y % 4294967296) (show s ≤ 32 by omega) ho.1 hc (by omega) (by omega) hlow
   have hsum : rd out (i : Int) + y % 4294967296 ≤ 4294967295 := by
    -- both are below: the low part is a multiple of p2 s below 2^32
    have h1 := Int.mul_ediv_add_emod (y % 4294967296) (p2 s)
    rw [hlow] at h1
    have h2 : (y % 4294967296) / p2 s < p2 (32 - s) := by
     apply Int.ediv_lt_of_lt_mul hp0; rw [Int.mul_comm, hpp]; omega
    have h3 := Int.mul_le_mul_of_nonneg_left (show (y % 4294967296) / p2 s + 1 ≤ p2 (32 - s) by omega) (show 0 ≤ p2 s by omega)
    rw [Int.mul_add, hpp] at h3
    omega
   simp only [limb_shift.l0]
   rw [if_pos (by omega), if_pos (by omega), if_pos (by omega), if_pos (by omega), if_pos (by omega), wsucc (by omega), if_pos (by omega), if_pos (by omega), ← hxe, wu (n := x) (by omega) (by omega), shl_u64 hx hs, ← hye, hor, show ((i : Int)).toNat = i by omega, show (((i + 1 : Nat) : Int)).toNat = i + 1 by omega, Int.emod_eq_of_lt (a := y / 4294967296) (by omega) (by omega)]
   have l1 : ((out.set i (rd out (i : Int) + y % 4294967296)).set (i + 1) (y / 4294967296)).length = a.length + 1 := by rw [List.length_set, List.length_set]; exact hol
   refine ih (i + 1) k _ (by omega) l1 ((hm.set _ ⟨by omega, hsum⟩).set _ (by omega)) ?_ ?_ (by omega)
   ·rw [rd_set_eq (by rw [List.length_set]; omega)]; exact hhi
   ·rw [rd_set_eq (by rw [List.length_set]; omega), take_set_le (Nat.le_refl _), val_take_set (by omega), val_take_succ a, pw_succ, ← hxe]
    exact shift_step hv hye (by omega)
theorem shift_ev {a : List Int} (ha : Lm a) {s : Nat} (hs : s ≤ 31) (hl : a.length < 274877906944) {k : Nat} (hk : a.length < k) :
   ∃ out, limb_shift.f k a (s : Int) = some out ∧ out.length = a.length + 1 ∧ Lm out ∧ val out = val a * p2 s := by
  unfold limb_shift.f
  rw [wi64 (n := (a.length : Int) + 1) (by omega) (by omega), if_pos (by omega), if_pos (by omega), show ((a.length : Int) + 1).toNat = a.length + 1 by omega]
  refine shift_loop ha hs hl a.length 0 k _ (by omega) (by simp) (Lm.zeros _) ?_ ?_ hk
  ·have := p2_pos s
   rw [rd_getElem (by simp)]; simp; omega
  ·rw [rd_getElem (by simp)]; simp [val]
/- unshift -/
theorem unshift_loop {a : List Int} (ha : Lm a) {s : Nat} (hs : s ≤ 31) (hl : a.length < 274877906944) : ∀ (d i k : Nat) (out : List Int),
   i + d = a.length → out.length = a.length → Lm out → val (out.take i) + pw i * (val (a.drop i) / p2 s) = val a / p2 s → a.length + d + 2 < k →
   limb_unshift.l0 k a (s : Int) out (a.length : Int) (i : Int) = some (natL (val a / p2 s)) := by
  intro d
  induction d with
  | zero =>
   intro i k out hi hol hm hv hk
   obtain ⟨k, rfl⟩ : ∃ m, k = m + 1 := ⟨k - 1, by omega⟩
   obtain rfl : i = a.length := by omega
   simp only [limb_unshift.l0]
   rw [if_neg (by omega), trim_ev (by omega) (by omega), trim_natL hm]; simp only [Option.bind_some]
   rw [List.take_of_length_le (by omega), List.drop_eq_nil_of_le (by omega)] at hv
   simp only [val, Int.zero_ediv, Int.mul_zero, Int.add_zero] at hv
   rw [hv]
  | succ d ih =>
   intro i k out hi hol hm hv hk
   obtain ⟨k, rfl⟩ : ∃ m, k = m + 1 := ⟨k - 1, by omega⟩
   have hx := ha.rd (i := (i : Int)); have hy := ha.rd (i := ((i + 1 : Nat) : Int))
   have hp0 := p2_pos s; have hp1 := p2_31 hs; have hpp := p2_32 (show s ≤ 32 by omega)
   have d1 := drop_rd (xs := a) (i := (i : Int)) (by omega) (by omega)
   rw [show ((i : Int)).toNat = i by omega, show ((i : Int) + 1).toNat = i + 1 by omega] at d1
   have hV := val_nonneg (ha.drop (i + 1))
   -- what stands behind
   have hdiv : val (a.drop i) / p2 s / 4294967296 = val (a.drop (i + 1)) / p2 s := by
    rw [d1]; simp only [val]
    rw [Int.ediv_ediv_of_nonneg (by omega), Int.mul_comm (p2 s), ← Int.ediv_ediv_of_nonneg (by omega)]
    congr 1; omega
   have go : ∀ o : Int, o = (val (a.drop i) / p2 s) % 4294967296 → limb_unshift.l0 k a (s : Int) (out.set i o) (a.length : Int) ((i + 1 : Nat) : Int) = some (natL (val a / p2 s)) := by
    intro o ho
    refine ih (i + 1) k _ (by omega) (by rw [List.length_set]; exact hol) (hm.set _ (by omega)) ?_ (by omega)
    rw [val_take_set (by omega), pw_succ, ← hdiv, ho, ← hv]
    have := Int.emod_add_mul_ediv (val (a.drop i) / p2 s) 4294967296
    grind
   simp only [limb_unshift.l0]
   rw [if_pos (by omega), if_pos (by omega), if_pos (by omega), wsucc (by omega), show ((i : Int)).toNat = i by omega]
   by_cases hn : ((i + 1 : Nat) : Int) < (a.length : Int)
   ·have d2 := drop_rd (xs := a) (i := ((i + 1 : Nat) : Int)) (by omega) (by omega)
    rw [show (((i + 1 : Nat) : Int)).toNat = i + 1 by omega, show (((i + 1 : Nat) : Int) + 1).toNat = i + 2 by omega] at d2
    have hor := or_high hx.1 hx.2 hy.1 hy.2
    rw [if_pos hn, if_pos (by omega), if_pos (by omega), if_pos (by omega), wu (n := rd a (i : Int)) (by omega) (by omega), wu (n := rd a ((i + 1 : Nat) : Int)) (by omega) (by omega), wu (n := rd a ((i + 1 : Nat) : Int) * 4294967296) (by omega) (by omega), hor, shr_nat (by simp [IntKind.bits]; omega)]
    refine go _ ?_
    rw [d1, d2]; simp only [val]
    obtain ⟨T, hT⟩ : ∃ T, T = rd a ((i + 1 : Nat) : Int) * 4294967296 + rd a (i : Int) := ⟨_, rfl⟩
    rw [← hT]
    have e1 : rd a (i : Int) + 4294967296 * (rd a ((i + 1 : Nat) : Int) + 4294967296 * val (a.drop (i + 2))) = T + p2 s * (4294967296 * (p2 (32 - s) * val (a.drop (i + 2)))) := by
     rw [hT]
     have : p2 s * (4294967296 * (p2 (32 - s) * val (a.drop (i + 2)))) = (p2 s * p2 (32 - s)) * (4294967296 * val (a.drop (i + 2))) := by grind
     rw [this, hpp]; omega
    rw [e1, Int.add_mul_ediv_left _ _ (by omega), Int.add_mul_emod_self_left]
   ·have hz : val (a.drop (i + 1)) = 0 := by rw [List.drop_eq_nil_of_le (by omega)]; rfl
    rw [if_neg hn, if_pos (by omega), if_pos (by omega), wu (n := rd a (i : Int)) (by omega) (by omega), shr_nat (by simp [IntKind.bits]; omega)]
    refine go _ ?_
    rw [d1]; simp only [val]; rw [hz]; simp
theorem unshift_ev {a : List Int} (ha : Lm a) {s : Nat} (hs : s ≤ 31) (hl : a.length < 274877906944) {k : Nat} (hk : 2 * a.length + 2 < k) : limb_unshift.f k a (s : Int) = some (natL (val a / p2 s)) := by
  unfold limb_unshift.f
  rw [if_pos (by omega), if_pos (by omega), show ((a.length : Int)).toNat = a.length by omega]
  refine unshift_loop ha hs hl a.length 0 k _ (by omega) (by simp) (Lm.zeros _) ?_ (by omega)
  simp [val, pw_zero]
/- What guess, take and give of layer 1 come to: a quotient's limb, at most one too great; what is taken and given. Conditions: lists of limbs, of fewer than 2^38 elements. -/
theorem mul_le2 {x y : Int} (hx : 0 ≤ x ∧ x ≤ 4294967295) (hy : 0 ≤ y ∧ y ≤ 4294967295) : 0 ≤ x * y ∧ x * y ≤ 18446744065119617025 := by
  have h1 := Int.mul_nonneg hx.1 hy.1
  have h2 := Int.mul_le_mul hx.2 hy.2 hy.1 (by omega : (0 : Int) ≤ 4294967295)
  omega
/- take -/
theorem take_step {V P c br U W q x y o d p br' : Int} (hV : V = U - q * W + P * (c + br)) (hp : p = c + q * y) (hd : d = x - p % 4294967296 - br) (ho : o = d + 4294967296 * br') :
   V + P * o = U + P * x - q * (W + P * y) + P * 4294967296 * (p / 4294967296 + br') := by
  have := Int.emod_add_mul_ediv p 4294967296
  grind
theorem take_loop {u v : List Int} (hu : Lm u) (hv : Lm v) {q : Int} (hq : 0 ≤ q ∧ q ≤ 4294967295) (hlu : u.length < 274877906944) (hlv : v.length < 274877906944) : ∀ (d i k : Nat) (out : List Int) (c br : Int),
   i + d = u.length → out.length = u.length → Lm out → (∀ j : Int, (i : Int) ≤ j → rd out j = rd u j) → 0 ≤ c → c ≤ 4294967295 → 0 ≤ br → br ≤ 1 → val (out.take i) = val (u.take i) - q * val (v.take i) + pw i * (c + br) → (v.length < i → c = 0) → d < k →
   ∃ (b : Bool) (out' : List Int) (c' br' : Int), limb_take.l0 k out v q c br (u.length : Int) (i : Int) = some (b, out') ∧ out'.length = u.length ∧ Lm out' ∧ 0 ≤ c' ∧ c' ≤ 4294967295 ∧ 0 ≤ br' ∧ br' ≤ 1 ∧ (b = true ↔ br' = 1) ∧ val out' = val u - q * val (v.take u.length) + pw u.length * (c' + br') ∧ (v.length < u.length → c' = 0) := by
  intro d
  induction d with
  | zero =>
   intro i k out c br hi hol hm hsame hc0 hc1 hb0 hb1 hval hcz hk
   obtain ⟨k, rfl⟩ : ∃ m, k = m + 1 := ⟨k - 1, by omega⟩
   obtain rfl : i = u.length := by omega
   refine ⟨br != 0, out, c, br, ?_, hol, hm, hc0, hc1, hb0, hb1, ?_, ?_, hcz⟩
   ·simp only [limb_take.l0]; rw [if_neg (by omega)]
   ·rcases (show br = 0 ∨ br = 1 by omega) with h | h <;> subst h <;> simp
   ·rw [List.take_of_length_le (by omega), List.take_length] at hval; exact hval
  | succ d ih =>
   intro i k out c br hi hol hm hsame hc0 hc1 hb0 hb1 hval hcz hk
   obtain ⟨k, rfl⟩ : ∃ m, k = m + 1 := ⟨k - 1, by omega⟩
   have hx := hu.rd (i := (i : Int)); have hy := hv.rd (i := (i : Int))
   have hqy := mul_le2 hq hy
   obtain ⟨m1, hm1⟩ : ∃ m1, m1 = q * rd v (i : Int) := ⟨_, rfl⟩
   rw [← hm1] at hqy
   have hcy : c + m1 ≤ 18446744069414584320 := by omega
   have go : ∀ p d' br' : Int, p = c + m1 → d' = rd u (i : Int) - p % 4294967296 - br → 0 ≤ br' → br' ≤ 1 → d' % 4294967296 = d' + 4294967296 * br' →
     ∃ (b : Bool) (out' : List Int) (c2 br2 : Int), limb_take.l0 k (out.set i (d' % 4294967296)) v q (p / 4294967296) br' (u.length : Int) ((i + 1 : Nat) : Int) = some (b, out') ∧ out'.length = u.length ∧ Lm out' ∧ 0 ≤ c2 ∧ c2 ≤ 4294967295 ∧ 0 ≤ br2 ∧ br2 ≤ 1 ∧ (b = true ↔ br2 = 1) ∧ val out' = val u - q * val (v.take u.length) + pw u.length * (c2 + br2) ∧ (v.length < u.length → c2 = 0) := by
    intro p d' br' hp hd' h0 h1 hmod
    refine ih (i + 1) k _ _ _ (by omega) (by rw [List.length_set]; exact hol) (hm.set _ (by omega)) ?_ (by omega) (by omega) h0 h1 ?_ ?_ (by omega)
    ·intro j hj; rw [rd_set_ne (by omega) (by omega)]; exact hsame j (by omega)
    ·rw [val_take_set (by omega), val_take_succ u, val_take_succ v, pw_succ]
     exact take_step hval (by rw [hp, hm1]) hd' hmod
    ·intro h
     have hz : rd v (i : Int) = 0 := rd_past (by omega)
     rw [hz] at hm1
     rcases Nat.lt_or_ge v.length i with h2 | h2
     ·have := hcz h2; omega
     ·omega
   simp only [limb_take.l0]
   rw [if_pos (by omega)]
   by_cases hb : (i : Int) < (v.length : Int)
   ·rw [if_pos hb, if_pos (by omega), if_pos (by omega)]; simp only [Option.bind_some]
    rw [wsucc (by omega), show ((i : Int)).toNat = i by omega, hsame (i : Int) (by omega), wu (n := rd v (i : Int)) (by omega) (by omega), ← hm1, wu (n := m1) (by omega) (by omega), wu (n := c + m1) (by omega) (by omega), wi64 (n := rd u (i : Int)) (by omega) (by omega), wi64 (n := rd u (i : Int) - (c + m1) % 4294967296) (by omega) (by omega), wi64 (n := rd u (i : Int) - (c + m1) % 4294967296 - br) (by omega) (by omega)]
    by_cases hn : rd u (i : Int) - (c + m1) % 4294967296 - br < 0
    ·rw [if_pos hn]; exact go _ _ 1 rfl rfl (by omega) (by omega) (by omega)
    ·rw [if_neg hn]; exact go _ _ 0 rfl rfl (by omega) (by omega) (by omega)
   ·have hz : rd v (i : Int) = 0 := rd_past (by omega)
    rw [hz] at hm1
    have hm0 : m1 = 0 := by omega
    rw [if_neg hb, if_pos (by omega), if_pos (by omega)]; simp only [Option.bind_some]
    rw [wsucc (by omega), show ((i : Int)).toNat = i by omega, hsame (i : Int) (by omega), wi64 (n := rd u (i : Int)) (by omega) (by omega), wi64 (n := rd u (i : Int) - c % 4294967296) (by omega) (by omega), wi64 (n := rd u (i : Int) - c % 4294967296 - br) (by omega) (by omega)]
    by_cases hn : rd u (i : Int) - c % 4294967296 - br < 0
    ·rw [if_pos hn]; exact go c _ 1 (by omega) rfl (by omega) (by omega) (by omega)
    ·rw [if_neg hn]; exact go c _ 0 (by omega) rfl (by omega) (by omega) (by omega)
/-- What is taken: u - q v, and pw more where that is below nought. -/
theorem take_ev {u v : List Int} (hu : Lm u) (hv : Lm v) {q : Int} (hq : 0 ≤ q ∧ q ≤ 4294967295) (hlu : u.length < 274877906944) (hlv : v.length < u.length) {k : Nat} (hk : u.length < k) :
   ∃ (b : Bool) (out' : List Int), limb_take.f k u v q = some (b, out') ∧ out'.length = u.length ∧ Lm out' ∧ val out' = val u - q * val v + pw u.length * (if b = true then 1 else 0) := by
  obtain ⟨b, out', c', br', h1, h2, h3, h4, h5, h6, h7, h8, h9, h10⟩ := take_loop hu hv hq hlu (by omega) u.length 0 k u 0 0 (by omega) rfl hu (fun _ _ => rfl) (by omega) (by omega) (by omega) (by omega) (by simp [val]) (fun _ => rfl) hk
  refine ⟨b, out', h1, h2, h3, ?_⟩
  rw [h9, h10 hlv, List.take_of_length_le (by omega)]
  cases b with
  | true => rw [h8.1 rfl]; simp
  | false =>
   have : br' = 0 := by
    rcases (show br' = 0 ∨ br' = 1 by omega) with h | h
    ·exact h
    ·exact absurd (h8.2 h) (by simp)
   rw [this]; simp
/- give -/
theorem give_step {V P c U W x y s : Int} (hV : V + P * c = U + W) (hs : s = c + x + y) : V + P * (s % 4294967296) + P * 4294967296 * (s / 4294967296) = U + P * x + (W + P * y) := by
  have := Int.emod_add_mul_ediv s 4294967296
  grind
theorem give_loop {u v : List Int} (hu : Lm u) (hv : Lm v) (hlu : u.length < 274877906944) (hlv : v.length < 274877906944) : ∀ (d i k : Nat) (out : List Int) (c : Int),
   i + d = u.length → out.length = u.length → Lm out → (∀ j : Int, (i : Int) ≤ j → rd out j = rd u j) → 0 ≤ c → c ≤ 1 → val (out.take i) + pw i * c = val (u.take i) + val (v.take i) → d < k →
   ∃ (out' : List Int) (c' : Int), limb_give.l0 k out v c (u.length : Int) (i : Int) = some out' ∧ out'.length = u.length ∧ Lm out' ∧ 0 ≤ c' ∧ c' ≤ 1 ∧ val out' + pw u.length * c' = val u + val (v.take u.length) := by
  intro d
  induction d with
  | zero =>
   intro i k out c hi hol hm hsame hc0 hc1 hval hk
   obtain ⟨k, rfl⟩ : ∃ m, k = m + 1 := ⟨k - 1, by omega⟩
   obtain rfl : i = u.length := by omega
   refine ⟨out, c, ?_, hol, hm, hc0, hc1, ?_⟩
   ·simp only [limb_give.l0]; rw [if_neg (by omega)]
   ·rw [List.take_of_length_le (by omega), List.take_length] at hval; exact hval
  | succ d ih =>
   intro i k out c hi hol hm hsame hc0 hc1 hval hk
   obtain ⟨k, rfl⟩ : ∃ m, k = m + 1 := ⟨k - 1, by omega⟩
   have hx := hu.rd (i := (i : Int)); have hy := hv.rd (i := (i : Int))
   have go : ∀ s : Int, s = c + rd u (i : Int) + rd v (i : Int) →
     ∃ (out' : List Int) (c' : Int), limb_give.l0 k (out.set i (s % 4294967296)) v (s / 4294967296) (u.length : Int) ((i + 1 : Nat) : Int) = some out' ∧ out'.length = u.length ∧ Lm out' ∧ 0 ≤ c' ∧ c' ≤ 1 ∧ val out' + pw u.length * c' = val u + val (v.take u.length) := by
    intro s hs
    refine ih (i + 1) k _ _ (by omega) (by rw [List.length_set]; exact hol) (hm.set _ (by omega)) ?_ (by omega) (by omega) ?_ (by omega)
    ·intro j hj; rw [rd_set_ne (by omega) (by omega)]; exact hsame j (by omega)
    ·rw [val_take_set (by omega), val_take_succ u, val_take_succ v, pw_succ]
     exact give_step hval hs
   simp only [limb_give.l0]
   rw [if_pos (by omega), if_pos (by omega), if_pos (by omega), wsucc (by omega), show ((i : Int)).toNat = i by omega, hsame (i : Int) (by omega), wu (n := rd u (i : Int)) (by omega) (by omega), wu (n := c + rd u (i : Int)) (by omega) (by omega)]
   by_cases hb : (i : Int) < (v.length : Int)
   ·rw [if_pos hb, wu (n := rd v (i : Int)) (by omega) (by omega), wu (n := c + rd u (i : Int) + rd v (i : Int)) (by omega) (by omega)]
    exact go _ rfl
   ·have hz : rd v (i : Int) = 0 := rd_past (by omega)
    rw [if_neg hb]
    exact go _ (by omega)
theorem give_ev {u v : List Int} (hu : Lm u) (hv : Lm v) (hlu : u.length < 274877906944) (hlv : v.length ≤ u.length) {k : Nat} (hk : u.length < k) :
   ∃ (out' : List Int) (c' : Int), limb_give.f k u v = some out' ∧ out'.length = u.length ∧ Lm out' ∧ 0 ≤ c' ∧ c' ≤ 1 ∧ val out' + pw u.length * c' = val u + val v := by
  obtain ⟨out', c', h1, h2, h3, h4, h5, h6⟩ := give_loop hu hv hlu (by omega) u.length 0 k u 0 (by omega) rfl hu (fun _ _ => rfl) (by omega) (by omega) (by simp [val]) hk
  rw [List.take_of_length_le hlv] at h6
  exact ⟨out', c', h1, h2, h3, h4, h5, h6⟩
/- guess -/
/-- A quotient that has been lowered only where it was too great, and is no more too great by two limbs of the divisor. -/
theorem guess_up {q t v1 v2 r u2 V2 U3 : Int} (h1 : q * v1 + r = t) (hV : V2 = v1 * 4294967296 + v2) (hU : U3 = t * 4294967296 + u2) (h2 : q * v2 ≤ r * 4294967296 + u2) : q * V2 ≤ U3 := by
  have : q * V2 = t * 4294967296 - r * 4294967296 + q * v2 := by rw [hV, ← h1]; grind
  omega
theorem guess_down {q t v1 v2 r u2 V2 U3 : Int} (h1 : q * v1 + r = t) (hV : V2 = v1 * 4294967296 + v2) (hU : U3 = t * 4294967296 + u2) (h2 : r * 4294967296 + u2 < q * v2) : U3 + 1 ≤ q * V2 := by
  have : q * V2 = t * 4294967296 - r * 4294967296 + q * v2 := by rw [hV, ← h1]; grind
  omega
/-- The limb's loop: Q the true quotient. -/
theorem guess_loop {u v : List Int} (hu : Lm u) (hv : Lm v) {n : Nat} (hn : v.length = n) (hn2 : 2 ≤ n) (hun : u.length = n + 1) (hln : n < 274877906944) {v1 v2 u2 t Q : Int}
   (hv1 : rd v ((n : Int) - 1) = v1) (hv2 : rd v ((n : Int) - 2) = v2) (hu2 : rd u ((n : Int) - 2) = u2) (hv1p : 2147483648 ≤ v1) (ht0 : 0 ≤ t) (ht1 : t ≤ v1 * 4294967296 + 4294967295)
   (hQ0 : 0 ≤ Q) (hQB : Q ≤ 4294967295) (hQ : ∀ q : Int, t * 4294967296 + u2 + 1 ≤ q * (v1 * 4294967296 + v2) → 0 ≤ q → Q < q) : ∀ (d k : Nat) (q r : Int),
   Q ≤ q → q ≤ 4294967298 → 0 ≤ r → r ≤ 4294967295 → q * v1 + r = t → 4294967296 - r ≤ d * 2147483648 → 2 * d + 2 < k →
   ∃ q', limb_guess.l0 k u v (n : Int) ((n + 1 : Nat) : Int) q r = some q' ∧ Q ≤ q' ∧ q' ≤ 4294967295 ∧ q' * (v1 * 4294967296 + v2) ≤ t * 4294967296 + u2 := by
  intro d
  induction d with
  | zero => intro k q r _ _ _ h4 _ h6 _; omega
  | succ d ih =>
   intro k q r hQq hqB hr0 hr1 hqt hd hk
   obtain ⟨k, rfl⟩ : ∃ m, k = m + 1 + 1 := ⟨k - 2, by omega⟩
   have hV1 := hv.rd (i := (n : Int) - 1); have hV2 := hv.rd (i := (n : Int) - 2); have hU2 := hu.rd (i := (n : Int) - 2)
   rw [hv1] at hV1; rw [hv2] at hV2; rw [hu2] at hU2
   -- what a lowering does
   have low : Q < q → limb_guess.j1 (k + 1) u v (n : Int) ((n + 1 : Nat) : Int) q r true = limb_guess.j1 (k + 1) u v (n : Int) ((n + 1 : Nat) : Int) q r true := fun _ => rfl
   have lower : Q ≤ q - 1 → (∃ q', limb_guess.j1 (k + 1) u v (n : Int) ((n + 1 : Nat) : Int) q r true = some q' ∧ Q ≤ q' ∧ q' ≤ 4294967295 ∧ q' * (v1 * 4294967296 + v2) ≤ t * 4294967296 + u2) := by
    intro hq1
    have hqt' : (q - 1) * v1 + (r + v1) = t := by rw [Int.sub_mul]; omega
    simp only [limb_guess.j1, if_true]
    rw [wi64 (n := (n : Int) - 1) (by omega) (by omega), if_pos (by omega), if_pos (by omega), hv1, wu (n := v1) (by omega) (by omega), wu (n := r + v1) (by omega) (by omega), wu (n := q - 1) (by omega) (by omega)]
    by_cases hb : (r + v1) / 4294967296 = 0
    ·rw [if_pos hb]
     exact ih k (q - 1) (r + v1) hq1 (by omega) (by omega) (by omega) hqt' (by omega) (by omega)
    ·rw [if_neg hb]
     have hqle : q - 1 ≤ 4294967295 := by
      rcases Int.lt_or_le 4294967295 (q - 1) with h | h
      ·have := Int.mul_le_mul_of_nonneg_right (show 4294967296 ≤ q - 1 by omega) (show 0 ≤ v1 by omega)
       omega
      ·exact h
     refine ⟨q - 1, rfl, hq1, hqle, ?_⟩
     refine guess_up hqt' rfl rfl ?_
     have := Int.mul_le_mul hqle hV2.2 hV2.1 (by omega : (0 : Int) ≤ 4294967295)
     omega
   simp only [limb_guess.l0]
   by_cases hq : q / 4294967296 = 0
   ·have hqs : q ≤ 4294967295 := by omega
    have hm := mul_le2 (x := q) (y := v2) ⟨by omega, hqs⟩ hV2
    have hor := or_low hU2.1 hU2.2 hr0 hr1
    rw [if_pos hq, wi64 (n := (n : Int) - 2) (by omega) (by omega), if_pos (by omega), if_pos (by omega), wi64 (n := ((n + 1 : Nat) : Int) - 3) (by omega) (by omega), if_pos (by omega), if_pos (by omega), show ((n + 1 : Nat) : Int) - 3 = (n : Int) - 2 by omega, hv2, hu2, wu (n := v2) (by omega) (by omega), wu (n := u2) (by omega) (by omega), wu (n := r * 4294967296) (by omega) (by omega), hor, wu (n := q * v2) (by omega) (by omega)]
    by_cases hc : q * v2 > r * 4294967296 + u2
    ·rw [show decide (q * v2 > r * 4294967296 + u2) = true from decide_eq_true hc]
     have h1 := guess_down hqt (V2 := v1 * 4294967296 + v2) rfl (U3 := t * 4294967296 + u2) rfl (by omega)
     have := hQ q h1 (by omega)
     exact lower (by omega)
    ·rw [show decide (q * v2 > r * 4294967296 + u2) = false from decide_eq_false hc]
     refine ⟨q, ?_, hQq, hqs, guess_up hqt rfl rfl (by omega)⟩
     simp only [limb_guess.j1]
     rw [if_neg (by simp)]
   ·rw [if_neg hq]
    exact lower (by omega)
/- What guess of layer 1 comes to, and one row of the long quotient. Conditions: lists of limbs, the divisor's last one at least 2^31. -/
/-- A true quotient, and what is at most one above it. -/
theorem quot_lt {U V P V' V2 U' U3 q : Int} (hU : U = U' + P * U3) (hV : V = V' + P * V2) (hV' : 0 ≤ V') (hU' : U' < P) (hP : 0 < P) (hVp : 0 < V) (h : U3 + 1 ≤ q * V2) (hq : 0 ≤ q) : U / V < q := by
  apply Int.ediv_lt_of_lt_mul hVp
  have h1 := Int.mul_le_mul_of_nonneg_left h (show 0 ≤ P by omega)
  have h2 := Int.mul_nonneg hq hV'
  have e : q * V = q * V' + P * (q * V2) := by rw [hV]; grind
  rw [Int.mul_add] at h1
  omega
theorem quot_up {U V P V' V2 U' U3 q : Int} (hU : U = U' + P * U3) (hV : V = V' + P * V2) (hV' : V' < P) (hV0 : 0 ≤ V') (hU' : 0 ≤ U') (hP : 0 < P) (hVp : 0 < V) (hV2 : 4294967296 ≤ V2) (h : q * V2 ≤ U3) (hq : 0 ≤ q) (hqB : q ≤ 4294967295) : q ≤ U / V + 1 := by
  have h1 := Int.mul_le_mul_of_nonneg_left h (show 0 ≤ P by omega)
  have h2 : q * V' ≤ 4294967295 * V' := Int.mul_le_mul_of_nonneg_right hqB hV0
  have h3 := Int.mul_le_mul_of_nonneg_left hV2 (show 0 ≤ P by omega)
  have e : q * V = q * V' + P * (q * V2) := by rw [hV]; grind
  have e2 := Int.mul_ediv_add_emod U V
  have e3 := Int.emod_lt_of_pos U hVp
  have h4 : q * V < U + V := by omega
  have h5 : q * V < (U / V + 2) * V := by
   have : (U / V + 2) * V = V * (U / V) + 2 * V := by grind
   omega
  have := Int.lt_of_mul_lt_mul_right h5 (by omega)
  omega
theorem guess_ev {u v : List Int} (hu : Lm u) (hv : Lm v) {n : Nat} (hn : v.length = n) (hn2 : 2 ≤ n) (hun : u.length = n + 1) (hln : n < 274877906944) (hv1p : 2147483648 ≤ rd v ((n : Int) - 1)) (hlt : val u < val v * 4294967296) {k : Nat} (hk : 6 < k) :
   ∃ g, limb_guess.f k u v = some g ∧ val u / val v ≤ g ∧ g ≤ val u / val v + 1 ∧ 0 ≤ g ∧ g ≤ 4294967295 := by
  obtain ⟨m, hm⟩ : ∃ m, n = m + 2 := ⟨n - 2, by omega⟩
  have A1 := hv.rd (i := (n : Int) - 1); have A2 := hv.rd (i := (n : Int) - 2)
  have B0 := hu.rd (i := (n : Int)); have B1 := hu.rd (i := (n : Int) - 1); have B2 := hu.rd (i := (n : Int) - 2)
  obtain ⟨v1, hv1⟩ : ∃ x, rd v ((n : Int) - 1) = x := ⟨_, rfl⟩
  obtain ⟨v2, hv2⟩ : ∃ x, rd v ((n : Int) - 2) = x := ⟨_, rfl⟩
  obtain ⟨u0, hu0⟩ : ∃ x, rd u (n : Int) = x := ⟨_, rfl⟩
  obtain ⟨u1, hu1⟩ : ∃ x, rd u ((n : Int) - 1) = x := ⟨_, rfl⟩
  obtain ⟨u2, hu2⟩ : ∃ x, rd u ((n : Int) - 2) = x := ⟨_, rfl⟩
  rw [hv1] at A1 hv1p; rw [hv2] at A2; rw [hu0] at B0; rw [hu1] at B1; rw [hu2] at B2
  have eV : val v = val (v.take m) + pw m * (v1 * 4294967296 + v2) := by
   have e1 := val_take_succ v m; have e2 := val_take_succ v (m + 1)
   rw [List.take_of_length_le (by omega)] at e2
   rw [show ((m : Nat) : Int) = (n : Int) - 2 by omega, hv2] at e1
   rw [show (((m + 1 : Nat)) : Int) = (n : Int) - 1 by omega, hv1, pw_succ] at e2
   rw [e2, e1]; grind
  have eU : val u = val (u.take m) + pw m * ((u0 * 4294967296 + u1) * 4294967296 + u2) := by
   have e1 := val_take_succ u m; have e2 := val_take_succ u (m + 1); have e3 := val_take_succ u (m + 2)
   rw [List.take_of_length_le (by omega)] at e3
   rw [show ((m : Nat) : Int) = (n : Int) - 2 by omega, hu2] at e1
   rw [show (((m + 1 : Nat)) : Int) = (n : Int) - 1 by omega, hu1, pw_succ] at e2
   rw [show (((m + 2 : Nat)) : Int) = (n : Int) by omega, hu0, pw_succ, pw_succ] at e3
   rw [e3, e2, e1]; grind
  have hP := pw_pos m
  have V0 := val_nonneg (hv.take m); have U0 := val_nonneg (hu.take m)
  have V1 := val_lt_pw (hv.take m); have U1 := val_lt_pw (hu.take m)
  rw [List.length_take, Nat.min_eq_left (by omega)] at V1 U1
  obtain ⟨t, ht⟩ : ∃ t, t = u0 * 4294967296 + u1 := ⟨_, rfl⟩
  rw [← ht] at eU
  have hV2 : 4294967296 ≤ v1 * 4294967296 + v2 := by omega
  have hVp : 0 < val v := by
   have := Int.mul_le_mul_of_nonneg_left hV2 (show 0 ≤ pw m by omega)
   omega
  have ht1 : t ≤ v1 * 4294967296 + 4294967295 := by
   rcases Int.lt_or_le (v1 * 4294967296 + 4294967295) t with h | h
   ·exfalso
    have h1 : v1 * 4294967296 + v2 + 1 ≤ t := by omega
    have h2 := Int.mul_le_mul_of_nonneg_left (show (v1 * 4294967296 + v2 + 1) * 4294967296 ≤ t * 4294967296 + u2 by omega) (show 0 ≤ pw m by omega)
    have e : pw m * ((v1 * 4294967296 + v2 + 1) * 4294967296) = (pw m * (v1 * 4294967296 + v2)) * 4294967296 + pw m * 4294967296 := by grind
    omega
   ·exact h
  obtain ⟨Q, hQe⟩ : ∃ Q, Q = val u / val v := ⟨_, rfl⟩
  have hQ0 : 0 ≤ Q := by rw [hQe]; exact Int.ediv_nonneg (by have := val_nonneg hu; omega) (by omega)
  have hQB : Q ≤ 4294967295 := by
   have : Q < 4294967296 := by rw [hQe]; apply Int.ediv_lt_of_lt_mul hVp; rw [Int.mul_comm]; exact hlt
   omega
  have hQ : ∀ q : Int, t * 4294967296 + u2 + 1 ≤ q * (v1 * 4294967296 + v2) → 0 ≤ q → Q < q := by
   intro q h hq
   rw [hQe]; exact quot_lt eU eV V0 U1 hP hVp h hq
  have d0 := Int.mul_ediv_add_emod t v1
  have d1 := Int.emod_nonneg t (show v1 ≠ 0 by omega)
  have d2 := Int.emod_lt_of_pos t (show 0 < v1 by omega)
  have d3 := Int.ediv_nonneg (show 0 ≤ t by omega) (show 0 ≤ v1 by omega)
  have g0 : Q ≤ t / v1 := by
   have h1 : t + 1 ≤ (t / v1 + 1) * v1 := by rw [Int.add_mul, Int.mul_comm (t / v1) v1]; omega
   have h2 := Int.mul_nonneg (show 0 ≤ t / v1 + 1 by omega) A2.1
   have h3 : (t / v1 + 1) * (v1 * 4294967296 + v2) = (t / v1 + 1) * v1 * 4294967296 + (t / v1 + 1) * v2 := by grind
   have := hQ (t / v1 + 1) (by omega) (by omega)
   omega
  have g1 : t / v1 ≤ 4294967298 := by
   have : t / v1 < 4294967298 := by
    apply Int.ediv_lt_of_lt_mul (by omega); omega
   omega
  obtain ⟨q', w1, w2, w3, w4⟩ := guess_loop hu hv hn hn2 hun hln hv1 hv2 hu2 hv1p (by omega) ht1 hQ0 hQB hQ 2 k (t / v1) (t % v1) g0 g1 d1 (by omega) (by rw [Int.mul_comm]; exact d0) (by omega) (by omega)
  refine ⟨q', ?_, by rw [← hQe]; exact w2, quot_up eU eV V1 V0 U0 hP hVp hV2 w4 (by omega) w3, by omega, w3⟩
  have hor := or_low B1.1 B1.2 B0.1 B0.2
  unfold limb_guess.f
  rw [hun, hn, wi64 (n := ((n + 1 : Nat) : Int) - 1) (by omega) (by omega), wi64 (n := ((n + 1 : Nat) : Int) - 2) (by omega) (by omega), wi64 (n := (n : Int) - 1) (by omega) (by omega), if_pos (by omega), if_pos (by omega), if_pos (by omega), if_pos (by omega), if_pos (by omega), if_pos (by omega), show ((n + 1 : Nat) : Int) - 1 = (n : Int) by omega, show ((n + 1 : Nat) : Int) - 2 = (n : Int) - 1 by omega, hv1, hu0, hu1, wu (n := v1) (by omega) (by omega), wu (n := u0) (by omega) (by omega), wu (n := u1) (by omega) (by omega), wu (n := u0 * 4294967296) (by omega) (by omega), hor, if_neg (by omega), ← ht, Int.tdiv_eq_ediv_of_nonneg (by omega), Int.tmod_eq_emod_of_nonneg (by omega), wu (n := t / v1) d3 (by omega)]
  exact w1
/-- One row: the window's quotient is taken off it. -/
theorem row_ev {w v : List Int} (hw : Lm w) (hv : Lm v) {n : Nat} (hn : v.length = n) (hn2 : 2 ≤ n) (hwn : w.length = n + 1) (hln : n < 274877906943) (hv1p : 2147483648 ≤ rd v ((n : Int) - 1)) (hlt : val w < val v * 4294967296) {k : Nat} (hk : n + 6 < k) :
   ∃ g b w1, limb_guess.f k w v = some g ∧ limb_take.f k w v g = some (b, w1) ∧ w1.length = n + 1 ∧ Lm w1 ∧ 0 ≤ g ∧ g ≤ 4294967295 ∧ val v * (val w / val v) = val v * (val w / val v) ∧
    ((b = false ∧ g = val w / val v ∧ val w1 = val w - val v * (val w / val v)) ∨ (b = true ∧ g - 1 = val w / val v ∧ ∃ w2, limb_give.f k w1 v = some w2 ∧ w2.length = n + 1 ∧ Lm w2 ∧ val w2 = val w - val v * (val w / val v))) := by
  obtain ⟨g, g1, g2, g3, g4, g5⟩ := guess_ev hw hv hn hn2 hwn (by omega) hv1p hlt (k := k) (by omega)
  obtain ⟨b, w1, t1, t2, t3, t4⟩ := take_ev hw hv ⟨g4, g5⟩ (by omega) (by omega) (k := k) (by omega)
  have V0 := val_nonneg hv; have W0 := val_nonneg hw
  have W1 := val_nonneg t3; have W2 := val_lt_pw t3; have VP := val_lt_pw hv
  rw [t2] at W2
  have hVp : 0 < val v := by omega
  have e := Int.mul_ediv_add_emod (val w) (val v)
  have e1 := Int.emod_nonneg (val w) (show val v ≠ 0 by omega)
  have e2 := Int.emod_lt_of_pos (val w) hVp
  have PP : val v < pw w.length := by have := pw_le (show v.length ≤ w.length by omega); omega
  obtain ⟨Q, hQ⟩ : ∃ Q, Q = val w / val v := ⟨_, rfl⟩
  rw [← hQ] at g2 g3 e ⊢
  refine ⟨g, b, w1, g1, t1, by omega, t3, g4, g5, rfl, ?_⟩
  cases b with
  | false =>
   left
   have hg : g = Q := by
    rcases (show g = Q ∨ g = Q + 1 by omega) with h | h
    ·exact h
    ·exfalso
     rw [h, Int.add_mul, Int.mul_comm Q] at t4
     simp at t4; omega
   refine ⟨rfl, hg, ?_⟩
   rw [hg, Int.mul_comm Q] at t4; simpa using t4
  | true =>
   right
   have hg : g = Q + 1 := by
    rcases (show g = Q ∨ g = Q + 1 by omega) with h | h
    ·exfalso
     rw [h, Int.mul_comm Q] at t4
     simp at t4; omega
    ·exact h
   rw [hg, Int.add_mul, Int.mul_comm Q] at t4
   simp at t4
   obtain ⟨w2, c', s1, s2, s3, s4, s5, s6⟩ := give_ev t3 hv (by omega) (by omega) (k := k) (by omega)
   have X0 := val_nonneg s3; have X1 := val_lt_pw s3
   rw [s2, t2] at X1; rw [t2] at s6
   refine ⟨rfl, by omega, w2, s1, by omega, s3, ?_⟩
   rcases (show c' = 0 ∨ c' = 1 by omega) with h | h <;> subst h
   ·exfalso; simp at s6; omega
   ·simp at s6; omega
/- What long, divide and DivMod of layer 1 come to: quotient and rest. Conditions: lists of limbs, of fewer than 2^37 elements. -/
theorem val_split (xs : List Int) (j : Nat) (h : j ≤ xs.length) : val xs = val (xs.take j) + pw j * val (xs.drop j) := by
  have := val_append_pw (xs.take j) (xs.drop j)
  rw [List.take_append_drop, List.length_take, Nat.min_eq_left h] at this; exact this
theorem val_drop_succ {xs : List Int} {j : Nat} (h : j < xs.length) : val (xs.drop j) = rd xs (j : Int) + 4294967296 * val (xs.drop (j + 1)) := by
  have d1 := drop_rd (xs := xs) (i := (j : Int)) (by omega) (by omega)
  rw [show ((j : Int)).toNat = j by omega, show ((j : Int) + 1).toNat = j + 1 by omega] at d1
  rw [d1]; rfl
/-- A window and what stands above it. -/
theorem val_window {xs : List Int} {j n : Nat} (h : j + n ≤ xs.length) : val (xs.drop j) = val ((xs.drop j).take n) + pw n * val (xs.drop (j + n)) := by
  rw [val_split (xs.drop j) n (by rw [List.length_drop]; omega), List.drop_drop]
theorem val_put {xs ys : List Int} {j n : Nat} (h : j + n ≤ xs.length) (hy : ys.length = n) : val (xs.take j ++ ys ++ xs.drop (j + n)) = val (xs.take j) + pw j * (val ys + pw n * val (xs.drop (j + n))) := by
  rw [List.append_assoc, val_append_pw, val_append_pw, List.length_take, Nat.min_eq_left (by omega), hy]
theorem put_len {xs ys : List Int} {j n : Nat} (h : j + n ≤ xs.length) (hy : ys.length = n) : (xs.take j ++ ys ++ xs.drop (j + n)).length = xs.length := by
  simp; omega
theorem put_drop {xs ys : List Int} {j n : Nat} (h : j + n ≤ xs.length) (hy : ys.length = n) : (xs.take j ++ ys ++ xs.drop (j + n)).drop j = ys ++ xs.drop (j + n) := by
  rw [List.append_assoc]
  have e := List.drop_left (l₁ := xs.take j) (l₂ := ys ++ xs.drop (j + n))
  rw [List.length_take, Nat.min_eq_left (by omega)] at e; exact e
theorem put_take {xs ys : List Int} {j n : Nat} (h : j + n ≤ xs.length) (hy : ys.length = n) : (xs.take j ++ ys ++ xs.drop (j + n)).take j = xs.take j := by
  rw [List.append_assoc]
  have e := List.take_left (l₁ := xs.take j) (l₂ := ys ++ xs.drop (j + n))
  rw [List.length_take, Nat.min_eq_left (by omega)] at e; exact e
theorem put_high {xs ys : List Int} {j n : Nat} (h : j + n ≤ xs.length) (hy : ys.length = n) : (xs.take j ++ ys ++ xs.drop (j + n)).drop (j + n) = xs.drop (j + n) := by
  have e := List.drop_left (l₁ := xs.take j ++ ys) (l₂ := xs.drop (j + n))
  rw [List.length_append, List.length_take, Nat.min_eq_left (by omega), hy] at e; exact e
theorem val_set_zero {xs : List Int} (hx : Lm xs) {j : Nat} (h : j < xs.length) (h0 : rd xs (j : Int) = 0) (x : Int) : val (xs.set j x) = val xs + pw j * x := by
  rw [val_split (xs.set j x) (j + 1) (by rw [List.length_set]; omega), val_take_set h, List.drop_set_of_lt (by omega), val_split xs (j + 1) (by omega), val_take_succ, h0]
  grind
/-- The rows, from the top one down. -/
theorem rows_ev {v : List Int} (hv : Lm v) {n : Nat} (hn : v.length = n) (hn2 : 2 ≤ n) (hln : n < 137438953472) (hv1p : 2147483648 ≤ rd v ((n : Int) - 1)) {s : Nat} (hs : s ≤ 31) {A : Int} (hA : 0 ≤ A) : ∀ (i k : Nat) (u q : List Int),
   Lm u → Lm q → u.length = n + q.length → q.length < 137438953472 → i ≤ q.length → (∀ j : Nat, j < i → rd q (j : Int) = 0) → A = val u + val v * val q → val (u.drop i) < val v → n + q.length + u.length + i + 8 < k →
   limb_long.l1 k (s : Int) v u q ((i : Int) - 1) = some (natL (A / val v), natL (A % val v / p2 s)) := by
  intro i
  induction i with
  | zero =>
   intro k u q hu hq hul hql hi hz hAv hlt hk
   obtain ⟨k, rfl⟩ : ∃ m, k = m + 1 := ⟨k - 1, by omega⟩
   rw [List.drop_zero] at hlt
   have U0 := val_nonneg hu; have Q0 := val_nonneg hq
   have VP := val_lt_pw hv
   rw [hn] at VP
   simp only [limb_long.l1]
   rw [if_neg (by omega), trim_ev (by omega) (by omega), trim_natL hq]; simp only [Option.bind_some]
   rw [if_pos (by omega), if_pos (by omega), hn, show ((n : Int)).toNat = n by omega, unshift_ev (hu.take n) hs (by rw [List.length_take]; omega) (by rw [List.length_take]; omega)]
   simp only [Option.bind_some]
   have e := val_split u n (by omega)
   have T0 := val_nonneg (hu.take n)
   have D0 := val_nonneg (hu.drop n)
   have e2 : val (u.drop n) = 0 := by
    rcases Int.lt_or_eq_of_le D0 with h | h
    ·exfalso
     have := Int.mul_le_mul_of_nonneg_left (show 1 ≤ val (u.drop n) by omega) (show 0 ≤ pw n by have := pw_pos n; omega)
     omega
    ·exact h.symm
   rw [e2] at e
   have e3 : val (u.take n) = val u := by omega
   have hd : A / val v = val q := by
    rw [hAv, Int.add_mul_ediv_left _ _ (by omega), Int.ediv_eq_zero_of_lt U0 hlt]; omega
   have hr : A % val v = val u := by
    rw [hAv, Int.add_mul_emod_self_left, Int.emod_eq_of_lt U0 hlt]
   rw [hd, hr, e3]
  | succ i ih =>
   intro k u q hu hq hul hql hi hz hAv hlt hk
   obtain ⟨k, rfl⟩ : ∃ m, k = m + 1 := ⟨k - 1, by omega⟩
   have hwl : ((u.drop i).take (n + 1)).length = n + 1 := by rw [List.length_take, List.length_drop]; omega
   have hw : Lm ((u.drop i).take (n + 1)) := (hu.drop i).take _
   have VP := val_lt_pw hv
   rw [hn] at VP
   have hV0 : 0 < val v := by have := val_nonneg (hu.drop (i + 1)); omega
   have hx := hu.rd (i := (i : Int))
   have d1 := val_drop_succ (xs := u) (j := i) (by omega)
   have d2 := val_window (xs := u) (j := i) (n := n + 1) (by omega)
   have H0 := val_nonneg (hu.drop (i + (n + 1)))
   have W0 := val_nonneg hw
   have hdl : val (u.drop i) < val v * 4294967296 := by omega
   have high : val (u.drop (i + (n + 1))) = 0 := by
    rcases Int.lt_or_eq_of_le H0 with h | h
    ·exfalso
     have h1 := Int.mul_le_mul_of_nonneg_left (show 1 ≤ val (u.drop (i + (n + 1))) by omega) (show 0 ≤ pw (n + 1) by have := pw_pos (n + 1); omega)
     have h2 := pw_succ n
     omega
    ·exact h.symm
   rw [high] at d2
   have dw : val ((u.drop i).take (n + 1)) = val (u.drop i) := by omega
   obtain ⟨g, b, w1, g1, t1, l1, m1, gq0, gq1, _, hcase⟩ := row_ev hw hv hn hn2 hwl (by omega) hv1p (by omega) (k := k) (by omega)
   rw [dw] at hcase
   obtain ⟨D, hD⟩ : ∃ D, D = val (u.drop i) := ⟨_, rfl⟩
   rw [← hD] at hcase hdl
   have em := Int.mul_ediv_add_emod D (val v)
   have em1 := Int.emod_lt_of_pos D hV0
   obtain ⟨Q, hQ⟩ : ∃ Q, Q = D / val v := ⟨_, rfl⟩
   rw [← hQ] at hcase em
   have hsu := val_split u i (by omega)
   rw [← hD] at hsu
   -- the last step, whichever list it was
   have go : ∀ w2 : List Int, w2.length = n + 1 → Lm w2 → val w2 = D - val v * Q → 0 ≤ Q → Q ≤ 4294967295 →
     limb_long.l1 k (s : Int) v (u.take i ++ w2 ++ u.drop (i + (n + 1))) (q.set i Q) ((i : Int) - 1) = some (natL (A / val v), natL (A % val v / p2 s)) := by
    intro w2 hl2 hm2 hv2 hq0 hq1
    have pl := put_len (xs := u) (ys := w2) (j := i) (n := n + 1) (by omega) hl2
    refine ih k _ _ ((hu.take i).append hm2 |>.append (hu.drop _)) (hq.set _ ⟨hq0, hq1⟩) (by rw [pl, List.length_set]; exact hul) (by rw [List.length_set]; exact hql) (by rw [List.length_set]; omega) ?_ ?_ ?_ (by rw [pl, List.length_set]; omega)
    ·intro j hj
     rw [rd_set_ne (by omega) (by omega)]; exact hz j (by omega)
    ·rw [val_put (by omega) hl2, high, hv2, val_set_zero hq (by omega) (hz i (by omega)), hAv, hsu]
     grind
    ·rw [put_drop (by omega) hl2, val_append_pw, high, hv2]; omega
   simp only [limb_long.l1]
   rw [show (((i + 1 : Nat) : Int) - 1) = (i : Int) by omega, if_pos (by omega)]
   unfold limb_guess.w limb_take.w
   rw [if_pos (by omega), show ((i : Int)).toNat = i by omega, hn, g1]; simp only [Option.bind_some]
   rw [if_pos (by omega), t1]; simp only [Option.bind_some]
   rcases hcase with ⟨hb, hg, hval⟩ | ⟨hb, hg, w2, s1, s2, s3, s4⟩
   ·rw [hb, if_neg (by simp), if_pos (by omega), if_pos (by omega), wi64 (n := (i : Int) - 1) (by omega) (by omega), Int.emod_eq_of_lt gq0 (by omega), hg]
    exact go w1 l1 m1 hval (by omega) (by omega)
   ·have hQ0 : 0 ≤ Q := by rw [hQ]; exact Int.ediv_nonneg (by omega) (by omega)
    rw [hb, if_pos rfl]
    unfold limb_give.w
    have pl := put_len (xs := u) (ys := w1) (j := i) (n := n + 1) (by omega) l1
    have pd : ((u.take i ++ w1 ++ u.drop (i + (n + 1))).drop i).take (n + 1) = w1 := by
     rw [put_drop (by omega) l1, ← l1, List.take_left]
    rw [if_pos (by omega), show ((i : Int)).toNat = i by omega, hn, pd, s1, put_take (by omega) l1, put_high (by omega) l1]; simp only [Option.bind_some]
    rw [if_pos (by omega), if_pos (by omega), wi64 (n := (i : Int) - 1) (by omega) (by omega), wu (n := g - 1) (by omega) (by omega), Int.emod_eq_of_lt (a := g - 1) (by omega) (by omega), hg]
    exact go w2 s2 s3 s4 hQ0 (by omega)
theorem shl_u32 {x : Int} {s : Nat} (hx : 0 ≤ x * p2 s ∧ x * p2 s ≤ 4294967295) (hs : s ≤ 31) : shl .u32 x (s : Int) = x * p2 s := by
  unfold shl
  rw [show min ((s : Int)).toNat IntKind.u32.bits = s by simp [IntKind.bits]; omega, wu32]
  exact Int.emod_eq_of_lt hx.1 (by unfold p2 at hx; omega)
theorem val_last {xs : List Int} {n : Nat} (h : xs.length = n) (hn : 1 ≤ n) : val xs = val (xs.take (n - 1)) + pw (n - 1) * rd xs ((n : Int) - 1) := by
  have e := val_take_succ xs (n - 1)
  rw [show n - 1 + 1 = n by omega, List.take_of_length_le (by omega), show (((n - 1 : Nat)) : Int) = (n : Int) - 1 by omega] at e
  exact e
theorem top_bound {xs : List Int} (hx : Lm xs) {n : Nat} (hn : xs.length = n + 1) {p P : Int} (h : val xs < pw n * p) (hp : 0 ≤ p) : rd xs (n : Int) < p := by
  have e := val_take_succ xs n
  rw [List.take_of_length_le (by omega)] at e
  have := val_nonneg (hx.take n)
  rcases Int.lt_or_le (rd xs (n : Int)) p with h1 | h1
  ·exact h1
  ·exfalso
   have := Int.mul_le_mul_of_nonneg_left h1 (show 0 ≤ pw n by have := pw_pos n; omega)
   omega
theorem rg1 (P t p : Int) : P * (t + 1) * p = P * (t * p + p) := by rw [Int.mul_assoc, Int.add_mul, Int.one_mul]
theorem rg2 (x P t p : Int) : (x + P * t) * p = x * p + P * (t * p) := by rw [Int.add_mul, Int.mul_assoc]
/-- A multiple of p2 s below 2^32 stays so with p2 s more. -/
theorem room {top : Int} {s : Nat} (hs : s ≤ 31) (hts : top * p2 s ≤ 4294967295) : top * p2 s + p2 s ≤ 4294967296 := by
  have hp0 := p2_pos s
  have hpp := p2_32 (show s ≤ 32 by omega)
  have h4 : top < p2 (32 - s) := by
   apply Int.lt_of_mul_lt_mul_right (a := p2 s) _ (by omega)
   rw [Int.mul_comm (p2 (32 - s)), hpp]; omega
  have h5 := Int.mul_le_mul_of_nonneg_right (show top + 1 ≤ p2 (32 - s) by omega) (show 0 ≤ p2 s by omega)
  rw [Int.add_mul, Int.mul_comm (p2 (32 - s)), hpp] at h5; omega
theorem moved_hi {b P top p x V : Int} (eb : b = x + P * top) (hx : x < P) (hP : 0 < P) (hp : 0 < p) (h3 : top * p + p ≤ 4294967296) : b * p < P * 4294967296 := by
  have h1 := Int.mul_lt_mul_of_pos_right (show b < P * (top + 1) by rw [Int.mul_add]; omega) hp
  have h6 := Int.mul_le_mul_of_nonneg_left h3 (show 0 ≤ P by omega)
  rw [rg1] at h1; omega
theorem moved_lo {b P top p x : Int} (eb : b = x + P * top) (hx : 0 ≤ x) (hP : 0 < P) (hp : 0 < p) (htl : 2147483648 ≤ top * p) : P * 2147483648 ≤ b * p := by
  have h1 := Int.mul_le_mul_of_nonneg_left htl (show 0 ≤ P by omega)
  have h2 := Int.mul_nonneg hx (show 0 ≤ p by omega)
  rw [eb, rg2]; omega
theorem top_lo {x P t V : Int} (e : V = x + P * t) (hx : x < P) (hP : 0 < P) (h : P * 2147483648 ≤ V) : 2147483648 ≤ t := by
  rcases Int.lt_or_le t 2147483648 with h1 | h1
  ·exfalso
   have := Int.mul_le_mul_of_nonneg_left (show t + 1 ≤ 2147483648 by omega) (show 0 ≤ P by omega)
   rw [Int.mul_add] at this
   omega
  ·exact h1
theorem top_hi {x P t V : Int} (e : V = x + P * t) (hx : x < P) (hP : 0 < P) (h : t < 2147483648) : V < P * 2147483648 := by
  have := Int.mul_le_mul_of_nonneg_left (show t + 1 ≤ 2147483648 by omega) (show 0 ≤ P by omega)
  rw [Int.mul_add] at this
  omega
theorem high_zero {xs : List Int} (hx : Lm xs) {n : Nat} (hn : n ≤ xs.length) (h : val xs < pw n) : val (xs.take n) = val xs := by
  have sb := val_split xs n hn
  have h0 := val_nonneg (hx.take n); have h1 := val_nonneg (hx.drop n)
  rcases Int.lt_or_eq_of_le h1 with h2 | h2
  ·exfalso
   have := Int.mul_le_mul_of_nonneg_left (show 1 ≤ val (xs.drop n) by omega) (show 0 ≤ pw n by have := pw_pos n; omega)
   omega
  ·rw [← h2] at sb; omega
theorem take_last_lt {xs : List Int} (hx : Lm xs) {n : Nat} (hn : xs.length = n) (hn1 : 1 ≤ n) : val (xs.take (n - 1)) < pw (n - 1) := by
  have b1 := val_lt_pw (hx.take (n - 1))
  rw [List.length_take, Nat.min_eq_left (by omega)] at b1; exact b1
/-- The divisor, moved. -/
theorem divisor_ev {b : List Int} (hb : Lm b) {n : Nat} (hn : b.length = n) (hn2 : 2 ≤ n) {top : Int} (ht : rd b ((n : Int) - 1) = top) {s : Nat} (hs : s ≤ 31) (hts : top * p2 s ≤ 4294967295) (htl : 2147483648 ≤ top * p2 s)
   {bs : List Int} (e2 : bs.length = n + 1) (e3 : Lm bs) (e4 : val bs = val b * p2 s) : val (bs.take n) = val b * p2 s ∧ pw (n - 1) * 2147483648 ≤ val (bs.take n) ∧ 2147483648 ≤ rd (bs.take n) ((n : Int) - 1) := by
  have eb := val_last hn (by omega)
  rw [ht] at eb
  have hP := pw_pos (n - 1)
  have pn : pw n = pw (n - 1) * 4294967296 := by rw [← pw_succ, show n - 1 + 1 = n by omega]
  have h1 := moved_hi (V := 0) eb (take_last_lt hb hn (by omega)) hP (p2_pos s) (room hs hts)
  have h2 := moved_lo eb (val_nonneg (hb.take _)) hP (p2_pos s) htl
  have h3 := high_zero e3 (n := n) (by omega) (by rw [e4, pn]; exact h1)
  have hvn : (bs.take n).length = n := by rw [List.length_take]; omega
  refine ⟨by rw [h3, e4], by rw [h3, e4]; exact h2, ?_⟩
  exact top_lo (val_last hvn (by omega)) (take_last_lt (e3.take n) hvn (by omega)) hP (by rw [h3, e4]; exact h2)
/-- The dividend, moved. -/
theorem dividend_ev {a : List Int} (ha : Lm a) {n m : Nat} (hn2 : 2 ≤ n) (hm : a.length + 1 = n + m) {s : Nat} (hs : s ≤ 31) {us : List Int} (f2 : us.length = a.length + 1) (f3 : Lm us) (f4 : val us = val a * p2 s) : val (us.drop m) < pw (n - 1) * 2147483648 := by
  have hp0 := p2_pos s; have hp1 := p2_31 hs
  have ust : rd us (a.length : Int) < p2 s := by
   refine top_bound f3 f2 (P := 0) ?_ (by omega)
   rw [f4]
   exact Int.mul_lt_mul_of_pos_right (val_lt_pw ha) hp0
  have hl : (us.drop m).length = n := by rw [List.length_drop]; omega
  have er : rd (us.drop m) ((n : Int) - 1) = rd us (a.length : Int) := by
   rw [rd_getElem (by omega), rd_getElem (by omega), List.getElem_drop]
   congr 1; omega
  refine top_hi (val_last hl (by omega)) (take_last_lt (f3.drop m) hl (by omega)) (pw_pos (n - 1)) ?_
  rw [er]; omega
theorem rest_moved (A B : Int) {p : Int} (hp : 0 < p) : A * p % (B * p) = (A % B) * p := by
  rw [Int.mul_comm A, Int.mul_comm B, Int.mul_emod_mul_of_pos _ _ hp, Int.mul_comm]
theorem long_rows {a : List Int} (ha : Lm a) {b : List Int} (hb : Lm b) {n m : Nat} (hn : b.length = n) (hn2 : 2 ≤ n) (hm : a.length + 1 = n + m) (hla : a.length < 68719476736) {top : Int} (ht : rd b ((n : Int) - 1) = top) {s : Nat} (hs : s ≤ 31)
   (hts : top * p2 s ≤ 4294967295) (htl : 2147483648 ≤ top * p2 s) {us bs : List Int} (e2 : bs.length = n + 1) (e3 : Lm bs) (e4 : val bs = val b * p2 s) (f2 : us.length = a.length + 1) (f3 : Lm us) (f4 : val us = val a * p2 s) {k : Nat} (hk : 5 * a.length + 20 < k) :
   limb_long.l1 k (s : Int) (bs.take n) us (List.replicate m 0) ((m : Int) - 1) = some (natL (val a / val b), natL (val a % val b)) := by
  have hp0 := p2_pos s
  obtain ⟨d1, d2, d3⟩ := divisor_ev hb hn hn2 ht hs hts htl e2 e3 e4
  have d4 := dividend_ev ha hn2 hm hs f2 f3 f4
  have hvn : (bs.take n).length = n := by rw [List.length_take]; omega
  have lr : (List.replicate m (0 : Int)).length = m := List.length_replicate
  have A0 := val_nonneg ha
  have fin := rows_ev (e3.take n) hvn hn2 (by omega) d3 hs (A := val a * p2 s) (Int.mul_nonneg A0 (by omega)) m k us (List.replicate m 0) f3 (Lm.zeros m) (by omega) (by omega) (by omega)
   (by intro j hj; rw [rd_getElem (by omega)]; simp) (by rw [val_zeros, f4]; simp) (by omega) (by omega)
  rw [d1, Int.mul_ediv_mul_of_pos_left _ _ hp0, rest_moved _ _ hp0, Int.mul_ediv_cancel _ (by omega)] at fin
  exact fin
theorem long_head {a b us bs : List Int} {n m k s : Nat} {top : Int} {r : Option (List Int × List Int)} (hn : b.length = n) (hn2 : 2 ≤ n) (hab : n ≤ a.length) (hla : a.length < 68719476736) (ht : rd b ((n : Int) - 1) = top) (hnz : ¬ (shl .u32 top (s : Int) / 2147483648 = 0))
   (e1 : limb_shift.f k b (s : Int) = some bs) (e2 : bs.length = b.length + 1) (f1 : limb_shift.f k a (s : Int) = some us) (f2 : us.length = a.length + 1) (hm : a.length + 1 = n + m) (fin : limb_long.l1 k (s : Int) (bs.take n) us (List.replicate m 0) ((m : Int) - 1) = r) : limb_long.l0 (k + 1) a b (s : Int) = r := by
  have hvn : (bs.take n).length = n := by rw [List.length_take]; omega
  have lr : (List.replicate m (0 : Int)).length = m := List.length_replicate
  have w1 : wrap64 ((n : Int) - 1) = (n : Int) - 1 := wi64 (by omega) (by omega)
  have w2 : wrap64 ((us.length : Int) - (n : Int)) = (m : Int) := by rw [show ((us.length : Int) - (n : Int)) = (m : Int) by omega]; exact wi64 (by omega) (by omega)
  have w3 : wrap64 ((m : Int) - 1) = (m : Int) - 1 := wi64 (by omega) (by omega)
  have c1 : 0 ≤ (n : Int) - 1 := by omega
  have c2 : (n : Int) - 1 < (n : Int) := by omega
  have c3 : 0 ≤ (s : Int) := by omega
  have c4 : 0 ≤ (n : Int) := by omega
  have c5 : (n : Int) ≤ (bs.length : Int) := by omega
  have c6 : 0 ≤ (m : Int) := by omega
  have c7 : m ≤ 70368744177664 := by omega
  unfold limb_long.l0
  rw [hn, w1, if_pos c1, if_pos c2, if_pos c3, ht, if_neg hnz, e1, Option.bind_some, if_pos c4, if_pos c5, Int.toNat_natCast, Option.bind_some, f1, Option.bind_some, hvn, w2, if_pos c6, Int.toNat_natCast, if_pos c7, Option.bind_some, lr, w3]
  exact fin
theorem long_end {a b : List Int} (ha : Lm a) (hb : Lm b) {n : Nat} (hn : b.length = n) (hn2 : 2 ≤ n) (hab : n ≤ a.length) (hla : a.length < 68719476736) {top : Int} (ht : rd b ((n : Int) - 1) = top) (s k : Nat) (hs : s ≤ 31)
   (hts : top * p2 s ≤ 4294967295) (htl : 2147483648 ≤ top * p2 s) (hk : 5 * a.length + 20 < k) : limb_long.l0 (k + 1) a b (s : Int) = some (natL (val a / val b), natL (val a % val b)) := by
  obtain ⟨bs, e1, e2, e3, e4⟩ := shift_ev hb hs (by omega) (k := k) (by omega)
  obtain ⟨us, f1, f2, f3, f4⟩ := shift_ev ha hs (by omega) (k := k) (by omega)
  obtain ⟨m, hm⟩ : ∃ m, a.length + 1 = n + m := ⟨a.length + 1 - n, by omega⟩
  have fin := long_rows ha hb hn hn2 hm hla ht hs hts htl (by omega) e3 e4 f2 f3 f4 hk
  have hvn : (bs.take n).length = n := by rw [List.length_take]; omega
  have hnz : ¬ (shl .u32 top (s : Int) / 2147483648 = 0) := by
   rw [shl_u32 ⟨by omega, hts⟩ hs]; omega
  have m0 : (m : Int).toNat ≤ 70368744177664 := by omega
  have lr : (List.replicate m (0 : Int)).length = m := List.length_replicate
  clear e4 f4 htl hts
  exact long_head hn hn2 hab hla ht hnz e1 e2 f1 f2 hm fin
theorem long_loop {a b : List Int} (ha : Lm a) (hb : Lm b) {n : Nat} (hn : b.length = n) (hn2 : 2 ≤ n) (hab : n ≤ a.length) (hla : a.length < 68719476736) {top : Int} (ht : rd b ((n : Int) - 1) = top) (ht1 : 1 ≤ top) : ∀ (d s k : Nat),
   s + d = 31 → top * p2 s ≤ 4294967295 → 5 * a.length + d + 21 < k → limb_long.l0 k a b (s : Int) = some (natL (val a / val b), natL (val a % val b)) := by
  intro d
  induction d with
  | zero =>
   intro s k hs hts hk
   obtain ⟨k, rfl⟩ : ∃ m, k = m + 1 := ⟨k - 1, by omega⟩
   have hs31 : s = 31 := by omega
   refine long_end ha hb hn hn2 hab hla ht s k (by omega) hts ?_ (by omega)
   rw [hs31, show p2 31 = 2147483648 by decide +kernel]; omega
  | succ d ih =>
   intro s k hs hts hk
   obtain ⟨k, rfl⟩ : ∃ m, k = m + 1 := ⟨k - 1, by omega⟩
   rcases Int.lt_or_le (top * p2 s) 2147483648 with h | h
   ·have h0 := Int.mul_nonneg (show 0 ≤ top by omega) (show 0 ≤ p2 s by have := p2_pos s; omega)
    simp only [limb_long.l0]
    rw [hn, wi64 (n := (n : Int) - 1) (by omega) (by omega), if_pos (by omega), if_pos (by omega), if_pos (by omega), ht, shl_u32 ⟨h0, hts⟩ (by omega), if_pos (by omega), wsucc (by omega)]
    refine ih (s + 1) k (by omega) ?_ (by omega)
    rw [p2_succ, ← Int.mul_assoc, Int.mul_comm top 2, Int.mul_assoc]; omega
   ·exact long_end ha hb hn hn2 hab hla ht s k (by omega) hts h (by omega)
theorem long_ev {a b : List Int} (ha : Lm a) (hb : Fm b) (hn2 : 2 ≤ b.length) (hab : b.length ≤ a.length) (hla : a.length < 68719476736) {k : Nat} (hk : 5 * a.length + 60 < k) : limb_long.f k a b = some (natL (val a / val b), natL (val a % val b)) := by
  have h := (Fm.iff hb.1).1 hb
  have h1 := hb.1.rd (i := (b.length : Int) - 1)
  unfold limb_long.f
  refine long_loop ha hb.1 rfl hn2 hab hla rfl (by omega) 31 0 k (by omega) ?_ (by omega)
  rw [show p2 0 = 1 by decide +kernel]; omega
theorem dclone_ev {l : List Int} (h : l.length < 1099511627776) : slices_Clone_limb_Nat_uint32.f l = some l := by
  unfold slices_Clone_limb_Nat_uint32.f; simp only [Option.bind_some]; rw [if_pos (by simp; omega)]; simp
/-- Quotient and rest, for a divisor above nought. -/
theorem divide_ev {a b : List Int} (ha : Fm a) (hb : Fm b) (hb0 : b.length ≠ 0) (hla : a.length < 68719476736) (hlb : b.length < 68719476736) {k : Nat} (hk : 5 * a.length + 60 < k) : limb_divide.f k a b = some (natL (val a / val b), natL (val a % val b)) := by
  have A0 := val_nonneg ha.1; have B0 := val_nonneg hb.1
  have hbl := (Fm.iff hb.1).1 hb
  unfold limb_divide.f
  rw [compare_ev ha hb (by omega) (by omega) (by omega)]; simp only [Option.bind_some]
  by_cases hlt : val a < val b
  ·rw [show cmpS (val a) (val b) = -1 by unfold cmpS; rw [if_pos hlt], if_pos (by omega), dclone_ev (by omega)]; simp only [Option.bind_some]
   rw [Int.ediv_eq_zero_of_lt A0 hlt, Int.emod_eq_of_lt A0 hlt, natL_zero, ← ha.natL]
  ·have hc : ¬ cmpS (val a) (val b) < 0 := by unfold cmpS; rw [if_neg hlt]; split <;> omega
   rw [if_neg hc]
   by_cases h1 : b.length = 1
   ·obtain ⟨x, rfl⟩ : ∃ x, b = [x] := List.length_eq_one_iff.1 h1
    have hx := hb.1.head
    have hx0 : x ≠ 0 := by
     rcases hbl with h | h
     ·exact absurd h hb0
     ·simpa [rd] using h
    rw [if_pos (by simp), if_pos (by simp), rd_cons_zero, small_ev ha.1 (by omega) hx.2 (by omega) (by omega)]
    simp [val]
   ·rw [if_neg (by omega), long_ev ha.1 hb (by omega) ?_ hla (by omega)]; rfl
    rcases Nat.lt_or_ge a.length b.length with h | h
    ·exfalso
     have h2 := (hb.len_pw (by omega)); have h3 := val_lt_pw ha.1
     have := pw_le (show a.length ≤ b.length - 1 by omega)
     omega
    ·exact h
/- What DivMod of layer 1 comes to: quotient and rest, or its error. Conditions: lists of limbs, of fewer than 2^36 elements. -/
def divS (a b : List Int) : List Int × List Int × Int := if fmB a = true ∧ fmB b = true then (if b.length = 0 then ([], [], 5) else (natL (val a / val b), natL (val a % val b), 0)) else ([], [], 1)
theorem divMod_ev {a b : List Int} (ha : Lm a) (hb : Lm b) (hla : a.length < 68719476736) (hlb : b.length < 68719476736) {k : Nat} (hk : 5 * a.length + 60 < k) : limb_DivMod.f k a b = some (divS a b) := by
  unfold limb_DivMod.f divS
  rw [formed2_ev (by omega) (by omega) (by omega)]; simp only [Option.bind_some]
  by_cases h : fmB a = true ∧ fmB b = true
  ·rw [if_pos (by simp [h.1, h.2]), if_pos h]
   by_cases h0 : b.length = 0
   ·rw [if_pos (by omega), if_pos h0]
   ·rw [if_neg (by omega), if_neg h0, divide_ev ((fmB_iff ha).1 h.1).2 ((fmB_iff hb).1 h.2).2 h0 hla hlb (by omega)]; rfl
  ·rw [if_neg (by simpa using h), if_neg h]
/- What the greatest common divisor of layer 1 comes to. Conditions: lists of limbs, of fewer than 2^20 elements; as many rounds as are needed. -/
/-- The greatest common divisor of two numbers. -/
def gcdI (x y : Int) : Int := ((Nat.gcd x.toNat y.toNat : Nat) : Int)
theorem gcdI_zero {x : Int} (h : 0 ≤ x) : gcdI x 0 = x := by
  unfold gcdI; rw [show (0 : Int).toNat = 0 from rfl, Nat.gcd_zero_right]; omega
theorem gcdI_step {x y : Int} (hx : 0 ≤ x) (hy : 0 < y) : gcdI x y = gcdI y (x % y) := by
  unfold gcdI
  rw [Int.toNat_emod hx (by omega), Nat.gcd_comm x.toNat, Nat.gcd_rec y.toNat x.toNat, Nat.gcd_comm]
theorem gcdI_nonneg (x y : Int) : 0 ≤ gcdI x y := by unfold gcdI; omega
theorem gcdI_pos {x y : Int} (hy : 0 < y) : 0 < gcdI x y := by
  unfold gcdI
  have := Nat.gcd_pos_of_pos_right x.toNat (show 0 < y.toNat by omega)
  omega
theorem gcdI_le {x y : Int} (hy : 0 < y) : gcdI x y ≤ y := by
  unfold gcdI
  have := Nat.gcd_le_right x.toNat (show 0 < y.toNat by omega)
  omega
theorem natL_len_le {v : Int} {n : Nat} (h0 : 0 ≤ v) (h : v < pw n) : (natL v).length ≤ n := ((natL_fm v).len_le n).2 (by rw [val_natL h0]; exact h)
theorem natL_len_zero {x : Int} (hx : 0 ≤ x) : (natL x).length = 0 ↔ x = 0 := by
  constructor
  ·intro h
   have := List.eq_nil_of_length_eq_zero h
   have e := val_natL hx
   rw [this] at e; simp only [val] at e; omega
  ·intro h; subst h; rw [natL_zero]; rfl
theorem lgcd_loop {L : Nat} (hL : L < 1048576) : ∀ (n k : Nat) (x y : Int), y.toNat ≤ n → 0 ≤ x → 0 ≤ y → x < pw L → y < pw L → n + 10 * L + 100 < k → limb_Gcd.l0 k (natL x) (natL y) = some (natL (gcdI x y), 0) := by
  intro n
  induction n with
  | zero =>
   intro k x y hn hx hy hxL hyL hk
   obtain ⟨k, rfl⟩ : ∃ m, k = m + 1 := ⟨k - 1, by omega⟩
   have h0 : y = 0 := by omega
   subst h0
   have lx := natL_len_le hx hxL
   simp only [limb_Gcd.l0]
   rw [if_neg (by rw [natL_zero]; simp), dclone_ev (by omega), Option.bind_some, gcdI_zero hx]
  | succ n ih =>
   intro k x y hn hx hy hxL hyL hk
   obtain ⟨k, rfl⟩ : ∃ m, k = m + 1 := ⟨k - 1, by omega⟩
   have lx := natL_len_le hx hxL
   have ly := natL_len_le hy hyL
   by_cases h0 : y = 0
   ·subst h0
    simp only [limb_Gcd.l0]
    rw [if_neg (by rw [natL_zero]; simp), dclone_ev (by omega), Option.bind_some, gcdI_zero hx]
   ·have hz : (natL y).length ≠ 0 := fun h => h0 ((natL_len_zero hy).1 h)
    have r0 := Int.emod_nonneg x h0
    have r1 := Int.emod_lt_of_pos x (show 0 < y by omega)
    have vx := val_natL hx; have vy := val_natL hy
    have hg := gcdI_step hx (show 0 < y by omega)
    obtain ⟨z, hze⟩ : ∃ z, z = x % y := ⟨_, rfl⟩
    rw [← hze] at r0 r1 hg
    simp only [limb_Gcd.l0]
    rw [if_pos (by omega), divide_ev (natL_fm x) (natL_fm y) hz (by omega) (by omega) (by omega), Option.bind_some, vx, vy, ← hze, hg]
    exact ih k y z (by omega) hy r0 hyL (by omega) (by omega)
theorem fm_of {l : List Int} (hl : Lm l) (h : fmB l = true) : l = natL (val l) ∧ l.length ≤ 400 ∧ 0 ≤ val l ∧ val l < pw 400 := by
  obtain ⟨h1, h2⟩ := (fmB_iff hl).1 h
  exact ⟨h2.natL, h1, val_nonneg hl, (h2.len_le 400).1 h1⟩
def gcdS (a b : List Int) : List Int × Int := if fmB a = true ∧ fmB b = true then (natL (gcdI (val a) (val b)), 0) else ([], 1)
theorem Gcd_ev {a b : List Int} (ha : Lm a) (hb : Lm b) (hal : a.length < 1048576) (hbl : b.length < 1048576) : Ev (fun k => limb_Gcd.f k a b) (gcdS a b) := by
  refine ⟨(val b).toNat + 10000, fun k hk => ?_⟩
  dsimp only
  unfold limb_Gcd.f gcdS
  rw [formed2_ev (by omega) (by omega) (by omega), Option.bind_some]
  by_cases h : fmB a = true ∧ fmB b = true
  ·obtain ⟨ea, la, va, pa⟩ := fm_of ha h.1
   obtain ⟨eb, lb, vb, pb⟩ := fm_of hb h.2
   have := lgcd_loop (L := 400) (by omega) (val b).toNat k (val a) (val b) (by omega) va vb pa pb (by omega)
   rw [← ea, ← eb] at this
   rw [if_pos (by simp [h.1, h.2]), if_pos h, this]
  ·rw [if_neg (by simpa using h), if_neg h]
/- The statements' own first questions of layer 1: awake says yes, few says whether all lists have at most 410 elements. No conditions beyond bounds on lengths. -/
theorem awake_ev : ∃ K, ∀ k, K ≤ k → psephoslaw01_awake.f k = some true :=
  Ev.of (g := fun k => psephoslaw01_awake.f k) (fun k => psephoslaw01_awake.mono k) (k := 9) (by decide +kernel)
theorem few_ev : ∀ (d : Nat) (ls : List (List Int)) (k : Nat) (i : Int), 0 ≤ i → (ls.length : Int) - i = d → ls.length < 1099511627776 → d < k →
   psephoslaw01_few.l0 k ls (ls.length : Int) i = some ((ls.drop i.toNat).all (fun l => decide (l.length ≤ 410))) := by
  intro d
  induction d with
  | zero =>
   intro ls k i h0 hd _ hk
   obtain ⟨k, rfl⟩ : ∃ m, k = m + 1 := ⟨k - 1, by omega⟩
   simp only [psephoslaw01_few.l0]; rw [if_neg (by omega), List.drop_eq_nil_of_le (by omega)]; rfl
  | succ d ih =>
   intro ls k i h0 hd hl hk
   obtain ⟨k, rfl⟩ : ∃ m, k = m + 1 := ⟨k - 1, by omega⟩
   have hi : i.toNat < ls.length := by omega
   have hrd : rd_L1 ls i = ls[i.toNat] := by unfold rd_L1; rw [List.getD_eq_getElem?_getD, List.getElem?_eq_getElem hi]; rfl
   have hdr : ls.drop i.toNat = ls[i.toNat] :: ls.drop (i + 1).toNat := by rw [List.drop_eq_getElem_cons hi, show (i + 1).toNat = i.toNat + 1 by omega]
   simp only [psephoslaw01_few.l0]
   rw [if_pos (by omega), if_pos h0, if_pos (by omega), hdr, List.all_cons, ← hrd]
   by_cases h : (rd_L1 ls i).length ≤ 410
   ·rw [if_neg (by omega), wi64 (by omega) (by omega), ih ls k (i + 1) (by omega) (by omega) hl (by omega)]; simp [h]
   ·rw [if_pos (by omega)]; simp [h]
theorem few_all {ls : List (List Int)} (hl : ls.length < 1099511627776) {k : Nat} (hk : ls.length < k) : psephoslaw01_few.f k ls = some (ls.all (fun l => decide (l.length ≤ 410))) := by
  have := few_ev ls.length ls k 0 (by omega) (by omega) hl hk
  unfold psephoslaw01_few.f
  simpa using this
end Go.Proofs.Ytapmhmkekkhhpaa.LLimbKeeps
