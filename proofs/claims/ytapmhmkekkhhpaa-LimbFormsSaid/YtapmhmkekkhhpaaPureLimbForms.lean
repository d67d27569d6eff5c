/- Any natural is formed, and low, as the reference says; any number is the natural that it says. No conditions. -/
import Derived.Test.YtapmhmkekkhhpaaLLimbFormsRCore
import Derived.Test.YtapmhmkekkhhpaaLLimbFormsAwake
namespace Go.Proofs.Ytapmhmkekkhhpaa.Pure
open Go.RowKit Go.Proofs.Ytapmhmkekkhhpaa.PLimbForms Go.Proofs.YtapmhmkekkhhpaaW.PrintWords Go.Proofs.YtapmhmkekkhhpaaW.PrintLast Go.Proofs.YtapmhmkekkhhpaaW.PrintMore Go.Proofs.Ytapmhmkekkhhpaa.LLimbForms
set_option linter.unusedSimpArgs false
set_option linter.unusedVariables false

def lowL (l : List Int) : Int × Bool := if fmB l = true ∧ l.length ≤ 2 then (val l, true) else (0, false)
theorem shl32 {x : Int} (h : 0 ≤ x) (h' : x ≤ 4294967295) : shl .u64 (IntKind.u64.wrap x) 32 = x * 4294967296 := by
  unfold shl; rw [wu64, show min ((32 : Int)).toNat IntKind.u64.bits = 32 by decide, wu64]; omega
theorem shl0 {x : Int} (h : 0 ≤ x) (h' : x ≤ 4294967295) : shl .u64 (IntKind.u64.wrap x) 0 = x := by
  unfold shl; rw [wu64, show min ((0 : Int)).toNat IntKind.u64.bits = 0 by decide, wu64]; omega
theorem low_ev {l : List Int} (hm : Lm l) (h : l.length < 1099511627776) {k : Nat} (hk : 5 < k) : limb_Low.f k l = some (lowL l) := by
  obtain ⟨k, rfl⟩ : ∃ m, k = m + 6 := ⟨k - 6, by omega⟩
  unfold limb_Low.f lowL; rw [Formed_ev h]; simp only [Option.bind_some]
  cases hf : fmB l with
  | false => simp [limb_Low.j0]
  | true =>
    by_cases hl : l.length ≤ 2
    · simp only [limb_Low.j0, if_true, true_and]
      rw [if_neg (by simp; omega), if_pos hl]
      match l, hm, hl with
      | [], _, _ => simp [limb_Low.l0, val]
      | [x], hm, _ =>
        have := hm.head
        have e0 := shl0 this.1 this.2
        have e1 : Go.bits .or .u64 0 x = x := by have := or_low this.1 this.2 (y := 0) (by omega) (by omega); simpa using this
        simp [limb_Low.l0, rd, e0, e1, val, wrap64]
      | [x, y], hm, _ =>
        have hx := hm.head; have hy := hm.tail.head
        have e0 := shl0 hx.1 hx.2
        have e1 : Go.bits .or .u64 0 x = x := by have := or_low hx.1 hx.2 (y := 0) (by omega) (by omega); simpa using this
        have e2 := shl32 hy.1 hy.2
        have e3 := or_high hx.1 hx.2 hy.1 hy.2
        simp [limb_Low.l0, rd, e0, e1, e2, e3, val, wrap64]; omega
    · simp only [limb_Low.j0, if_true, true_and]
      rw [if_pos (by simp; omega), if_neg hl]
theorem rlow_ev {l : List Int} (hm : Lm l) (h : l.length < 1099511627776) {k : Nat} (hk : 5 < k) : psephosref01_Low.f k l = some (lowL l) := by
  obtain ⟨k, rfl⟩ : ∃ m, k = m + 6 := ⟨k - 6, by omega⟩
  unfold psephosref01_Low.f lowL; rw [rFormed_ev h]
  by_cases hl : l.length ≤ 2
  · rw [if_neg (by omega)]; simp only [Option.bind_some]
    cases hf : fmB l with
    | false => simp [psephosref01_Low.j0]
    | true =>
      simp only [psephosref01_Low.j0]
      rw [if_neg (by simp)]
      match l, hm, hl with
      | [], _, _ => simp [psephosref01_Low.l0, val, wrap64]
      | [x], hm, _ =>
        have hx := hm.head
        have e1 : Go.bits .or .u64 0 x = x := by have := or_low hx.1 hx.2 (y := 0) (by omega) (by omega); simpa using this
        have w0 : IntKind.u64.wrap 0 = 0 := by decide
        have wx : IntKind.u64.wrap x = x := by rw [wu64]; omega
        simp [psephosref01_Low.l0, rd, w0, wx, e1, val, wrap64]
      | [x, y], hm, _ =>
        have hx := hm.head; have hy := hm.tail.head
        have e1 : Go.bits .or .u64 0 y = y := by have := or_low hy.1 hy.2 (y := 0) (by omega) (by omega); simpa using this
        have w0 : IntKind.u64.wrap 0 = 0 := by decide
        have wx : IntKind.u64.wrap x = x := by rw [wu64]; omega
        have wy : IntKind.u64.wrap y = y := by rw [wu64]; omega
        have wz : IntKind.u64.wrap (y * 4294967296) = y * 4294967296 := by rw [wu64]; omega
        have e3 := or_low hx.1 hx.2 hy.1 hy.2
        simp [psephosref01_Low.l0, rd, w0, wx, wy, wz, e1, e3, val, wrap64]; omega
  · rw [if_pos (by omega), if_neg (by omega)]
    simp [psephosref01_Low.j0]
theorem rof_ev (n : Int) {k : Nat} (hk : 2 < k) : psephosref01_Of.f k n = some (ofN n) := by
  unfold psephosref01_Of.f; rw [rtrim_ev (by simp) (by simpa using hk)]; rfl

theorem LimbForms : psephoslaw01_LimbForms.Pure := by
  intro l n _ hl hw hn
  have hm : Lm l := fun x hx => bu32 (hw x hx)
  obtain ⟨K, hK⟩ := awake_ev
  refine ⟨K + l.length + 10, ?_⟩
  unfold psephoslaw01_LimbForms.f
  rw [hK _ (by omega)]; simp only [Option.bind_some, if_true]
  rw [few_all (by simp) (by simp)]; simp only [Option.bind_some]
  simp only [psephoslaw01_LimbForms.j0, show K + l.length + 10 = (K + l.length + 9) + 1 from rfl]
  by_cases hf : l.length ≤ 410
  · rw [if_neg (by simp; omega), low_ev hm (by omega) (by omega), rlow_ev hm (by omega) (by omega), Formed_ev (by omega), rFormed_ev (by omega), of_ev n (by omega), rof_ev n (by omega)]
    simp only [Option.bind_some]
    have hs : psephoslaw01_same.f (K + l.length + 9) (ofN n) (ofN n) = some true := by
      have := ofN_len n
      unfold psephoslaw01_same.f; rw [same_self (by omega) (by omega)]; rfl
    rw [hs]; simp
  · rw [if_pos (by simp; omega), hK _ (by omega)]; rfl

end Go.Proofs.Ytapmhmkekkhhpaa.Pure
