/- What the printed functions of layer 1 that form naturals come to: trim, Of, Formed, formed, fit. Conditions: lists of limbs, of fewer than 2^40 elements. -/
import Derived.Test.YtapmhmkekkhhpaaLLimbFormsLNat
import Derived.Test.YtapmhmkekkhhpaaPLimbFormsx
namespace Go.Proofs.Ytapmhmkekkhhpaa.LLimbForms
open Go.RowKit Go.Proofs.Ytapmhmkekkhhpaa.PLimbForms Go.Proofs.YtapmhmkekkhhpaaW.PrintWords Go.Proofs.YtapmhmkekkhhpaaW.PrintLast Go.Proofs.YtapmhmkekkhhpaaW.PrintMore
set_option linter.unusedSimpArgs false
set_option linter.unusedVariables false

theorem trim_k : ∀ (n : Nat) (l : List Int), l.length = n → n < 1099511627776 → ∀ k, n < k → limb_trim.l0 k l = some (trimL l) := by
  intro n
  induction n with
  | zero =>
    intro l hl _ k hk
    obtain ⟨k, rfl⟩ : ∃ m, k = m + 1 := ⟨k - 1, by omega⟩
    simp only [limb_trim.l0]
    rw [if_neg (by omega), List.eq_nil_of_length_eq_zero hl]; rfl
  | succ n ih =>
    intro l hl hn k hk
    obtain ⟨k, rfl⟩ : ∃ m, k = m + 1 := ⟨k - 1, by omega⟩
    have hw : wrap64 ((l.length : Int) - 1) = (l.length : Int) - 1 := wi64 (by omega) (by omega)
    simp only [limb_trim.l0]
    rw [hw, if_pos (by omega), if_pos (by omega), if_pos (by omega), trimL_last (by omega)]
    by_cases h0 : rd l ((l.length : Int) - 1) = 0
    · rw [if_pos h0, if_pos (by omega), if_pos h0]
      exact ih _ (by rw [List.length_take]; omega) (by omega) k (by omega)
    · rw [if_neg h0, if_neg h0]
theorem trim_ev {l : List Int} (h : l.length < 1099511627776) {k : Nat} (hk : l.length < k) : limb_trim.f k l = some (trimL l) := trim_k _ l rfl h k hk
/-- A number as a natural. -/
def ofN (n : Int) : List Int := trimL [n % 4294967296, n / 4294967296 % 4294967296]
theorem of_ev (n : Int) {k : Nat} (hk : 2 < k) : limb_Of.f k n = some (ofN n) := by
  unfold limb_Of.f; rw [trim_ev (by simp) (by simpa using hk)]; rfl
theorem ofN_fm (n : Int) : Fm (ofN n) := Fm.of (Lm.cons (by omega) (Lm.cons (by omega) Lm.nil))
theorem ofN_val {n : Int} (h0 : 0 ≤ n) (h1 : n ≤ 18446744073709551615) : val (ofN n) = n := by
  unfold ofN; rw [val_trimL]; simp only [val]; omega
theorem ofN_len (n : Int) : (ofN n).length ≤ 2 := trimL_length _
/-- Is a list a natural: not too long, no nought at its end. -/
def fmB (l : List Int) : Bool := decide (l.length ≤ 400) && (decide (l.length = 0) || decide (rd l ((l.length : Int) - 1) ≠ 0))
theorem fmB_iff {l : List Int} (h : Lm l) : fmB l = true ↔ l.length ≤ 400 ∧ Fm l := by
  unfold fmB; rw [Fm.iff h]; simp
theorem Formed_ev {l : List Int} (h : l.length < 1099511627776) : limb_Formed.f l = some (fmB l) := by
  have hw : wrap64 ((l.length : Int) - 1) = (l.length : Int) - 1 := wi64 (by omega) (by omega)
  unfold limb_Formed.f fmB
  rw [hw]
  by_cases h1 : l.length ≤ 400
  · rw [if_pos (by omega)]
    by_cases h2 : l.length = 0
    · rw [if_pos (by omega)]; simp [h1, h2]
    · rw [if_neg (by omega), if_pos (by omega), if_pos (by omega)]; simp [h1, h2, bne]; rfl
  · rw [if_neg (by omega)]; simp [h1]
theorem index_ev : ∀ (d : Nat) (ls : List (List Int)) (k : Nat) (i : Int), 0 ≤ i → (ls.length : Int) - i = d → ls.length < 1099511627776 → (∀ l ∈ ls, l.length < 1099511627776) → d < k →
    ∃ r, slices_IndexFunc_limb_Nat_limb_Nat__limb_formed_1.l0 k ls (ls.length : Int) i = some r ∧ decide (r ≥ 0) = (ls.drop i.toNat).any (fun l => !fmB l) := by
  intro d
  induction d with
  | zero =>
    intro ls k i h0 hd _ _ hk
    obtain ⟨k, rfl⟩ : ∃ m, k = m + 1 := ⟨k - 1, by omega⟩
    refine ⟨-1, ?_, ?_⟩
    · simp only [slices_IndexFunc_limb_Nat_limb_Nat__limb_formed_1.l0]; rw [if_neg (by omega)]
    · rw [List.drop_eq_nil_of_le (by omega)]; rfl
  | succ d ih =>
    intro ls k i h0 hd hl hls hk
    obtain ⟨k, rfl⟩ : ∃ m, k = m + 1 := ⟨k - 1, by omega⟩
    have hi : i.toNat < ls.length := by omega
    have hrd : rd_L1 ls i = ls[i.toNat] := by unfold rd_L1; rw [List.getD_eq_getElem?_getD, List.getElem?_eq_getElem hi]; rfl
    have hdr : ls.drop i.toNat = ls[i.toNat] :: ls.drop (i + 1).toNat := by rw [List.drop_eq_getElem_cons hi, show (i + 1).toNat = i.toNat + 1 by omega]
    have hF : limb_formed_1.f (rd_L1 ls i) = some (!fmB (rd_L1 ls i)) := by
      unfold limb_formed_1.f; rw [Formed_ev (by rw [hrd]; exact hls _ (List.getElem_mem hi))]; rfl
    simp only [slices_IndexFunc_limb_Nat_limb_Nat__limb_formed_1.l0]
    rw [if_pos (by omega), if_pos h0, if_pos (by omega), hF]; simp only [Option.bind_some]
    rw [hdr, List.any_cons, ← hrd]
    cases hb : fmB (rd_L1 ls i) with
    | true =>
      obtain ⟨r, hr, h⟩ := ih ls k (i + 1) (by omega) (by omega) hl hls (by omega)
      refine ⟨r, ?_, ?_⟩
      · rw [if_neg (by simp), wi64 (by omega) (by omega)]; exact hr
      · rw [h]; rfl
    | false => exact ⟨i, by rw [if_pos (by simp)], by simp [h0]⟩
theorem not_any_not : ∀ ls : List (List Int), (!ls.any (fun l => !fmB l)) = ls.all fmB
  | [] => rfl
  | a :: b => by rw [List.any_cons, List.all_cons, ← not_any_not b]; cases fmB a <;> simp
theorem formed_ev {ls : List (List Int)} (hl : ls.length < 1099511627776) (hls : ∀ l ∈ ls, l.length < 1099511627776) {k : Nat} (hk : ls.length < k) : limb_formed.f k ls = some (ls.all fmB) := by
  obtain ⟨r, hr, h⟩ := index_ev ls.length ls k 0 (by omega) (by omega) hl hls hk
  unfold limb_formed.f slices_ContainsFunc_limb_Nat_limb_Nat__limb_formed_1.f slices_IndexFunc_limb_Nat_limb_Nat__limb_formed_1.f
  rw [hr]; simp only [Option.bind_some]; rw [h]
  exact congrArg some (not_any_not ls)
theorem formed2_ev {a b : List Int} (ha : a.length < 1099511627776) (hb : b.length < 1099511627776) {k : Nat} (hk : 2 < k) : limb_formed.f k [a, b] = some (fmB a && fmB b) := by
  rw [formed_ev (by simp) (by intro l hl; simp at hl; rcases hl with rfl | rfl <;> assumption) (by simpa using hk)]; simp
/-- A result that isn't too long. -/
def fitL (l : List Int) : List Int × Int := if (trimL l).length ≤ 400 then (trimL l, 0) else ([], 4)
theorem fit_ev {l : List Int} (h : l.length < 1099511627776) {k : Nat} (hk : l.length < k) : limb_fit.f k l = some (fitL l) := by
  unfold limb_fit.f fitL; rw [trim_ev h hk]; simp only [Option.bind_some]
  by_cases h1 : (trimL l).length ≤ 400
  · rw [if_neg (by omega), if_pos h1]
  · rw [if_pos (by omega), if_neg h1]

end Go.Proofs.Ytapmhmkekkhhpaa.LLimbForms
