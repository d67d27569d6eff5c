/- Walks and their mathematics, merged. No conditions beyond those written. -/
import Derived.Test.YtjnniobafdchlaaWmPayoutNil3
import Derived.ChangeArms
import Derived.DataReads
import Derived.OpenShut
import Derived.ChangeSlices
import Derived.Below
/- Arguments opened: what a value that reads «as» data says of the memory. Conditions: the types' descriptions, written with each theorem. -/
namespace Go.Proofs.Wk
open Go.RowKit
set_option linter.unusedVariables false
set_option linter.unusedSimpArgs false
section
variable {H : Type} {enc : TypeId × Value → H} {P : Program} {W : World} {base : Nat} {sp : Nat → Bool} {held : Bool} {α β γ δ : Type}
/-! ### What holds, holds later -/
/-- A contract, where the row's walk ends. -/
theorem Ct.row {f : FuncId} {args : Array Value} {pre : World → Prop} {r : α → Value} {p : α → Prop} {Ψ : α → World → Prop} (h : Ct P f args pre r p Ψ) (hp : ∀ w', Keep (fun _ => False) W w' → pre w') : Calls P f args W (fun e w' => (∃ x, e = .returned (r x) ∧ p x) ∧ Below W.heap.size W w') :=
  (h (fun _ => False) W (fun _ e => e.elim) hp).mono fun e w' ⟨x, e1, e2, k, _⟩ => ⟨⟨x, e1, e2⟩, ⟨k.os, k.tape, k.output, k.size, fun i hi => k.block i hi id⟩⟩
end
end Go.Proofs.Wk
/- Rows of arguments, their parts' places chosen. -/
namespace Go.Proofs.Wk
open Go.RowKit
set_option linter.unusedVariables false
set_option linter.unusedSimpArgs false
section
variable {α β : Type} {W : World}
end
end Go.Proofs.Wk
