/-
  No cell of these rows narrows 'for every input' (looked for: loops, veiled, ifaces, maps, wideKeys, modest, calm, conditions, laid).
  DERIVED. THE GIVEN ROWS OF THIS SEAT. 3 by the template 'for every input the law returns true; each argument reads behind the call as it read before'; 0 by the template 'total and deterministic' (their statements: YtjnniobafdchlaaTotals.lean).
  GIVEN WITH THE SEED: the statements are not yours to turn. If you find one false, say at which input.
  Laid BY PROGRAM, IN A SANDBOX (cutbox-rows.mjs): the forced cells as the released guide's own fill.sh prints them over the translation e33be7094fc82cc8… (all of the seat's roots in one cut). By AI agents, Wed Nov 11 2026. No macro, syntax, notation, axiom, sorry.
-/
import Derived.Test.YtjnniobafdchlaaChecked
import GoSem.Claim
import GoSem.ClaimJoined
import GoSem.ClaimMapViews
import Derived.JoinedTies
import Derived.KernelRfl
namespace Go.Proofs.Ytjnniobafdchlaa
/- THE CELL 'sum', in the pinned program and in every row, IS THE sha256 OF THE DUMP (.gsa) THAT YtjnniobafdchlaaProg.lean LOADS. Nothing in Lean hashes anything: it is a label: what it is worth is what the hold of that sum in a sandbox is worth. -/
noncomputable def Try.pinned : Pinned := { name := "ytjnniobafdchlaa", sum := "e33be7094fc82cc881b96dbf67eeace2eaa2a6b30072c770e364cc5fd505379a", checked := Try.checked }
namespace Rows
def none {H : Type} : Left H := { results := [], args := [] }

/-- 'psephoslaw20.PayoutShares': WHATEVER THE INPUT: true; the input reads as it did. -/
def payoutSharesSpec : ChangeSpec := { name := "payoutShares", fn := fun _ => fun
  | [d1, d2, d3] => { results := [.lit (.bool true)], args := [d1, d2, d3] }
  | _ => none }
def payoutSharesRow : OpenClaim := { program := "ytjnniobafdchlaa", sum := "e33be7094fc82cc881b96dbf67eeace2eaa2a6b30072c770e364cc5fd505379a", func := "psephos/psephoslaw20.PayoutShares", spec := "payoutShares", unfollowed := true, recurses := true, apart := false }
def PayoutSharesSaid : Prop := payoutSharesRow.holds Try.pinned (OpenSpec.ofChange payoutSharesSpec)

/-- ITS FALSE NEIGHBOUR: 'it returns false'. Refute it at one input. -/
def payoutSharesWrong : ChangeSpec := { name := "payoutShares", fn := fun _ => fun
  | [d1, d2, d3] => { results := [.lit (.bool false)], args := [d1, d2, d3] }
  | _ => none }
def PayoutSharesWrongFalsely : Prop := payoutSharesRow.holds Try.pinned (OpenSpec.ofChange payoutSharesWrong)

/-- 'psephoslaw20.PayoutWhole': WHATEVER THE INPUT: true; the input reads as it did. -/
def payoutWholeSpec : ChangeSpec := { name := "payoutWhole", fn := fun _ => fun
  | [d1, d2, d3, d4, d5] => { results := [.lit (.bool true)], args := [d1, d2, d3, d4, d5] }
  | _ => none }
def payoutWholeRow : OpenClaim := { program := "ytjnniobafdchlaa", sum := "e33be7094fc82cc881b96dbf67eeace2eaa2a6b30072c770e364cc5fd505379a", func := "psephos/psephoslaw20.PayoutWhole", spec := "payoutWhole", unfollowed := true, recurses := true, apart := false }
def PayoutWholeSaid : Prop := payoutWholeRow.holds Try.pinned (OpenSpec.ofChange payoutWholeSpec)

/-- ITS FALSE NEIGHBOUR: 'it returns false'. Refute it at one input. -/
def payoutWholeWrong : ChangeSpec := { name := "payoutWhole", fn := fun _ => fun
  | [d1, d2, d3, d4, d5] => { results := [.lit (.bool false)], args := [d1, d2, d3, d4, d5] }
  | _ => none }
def PayoutWholeWrongFalsely : Prop := payoutWholeRow.holds Try.pinned (OpenSpec.ofChange payoutWholeWrong)

/-- 'psephoslaw20.PayoutNil': WHATEVER THE INPUT: true; the input reads as it did. -/
def payoutNilSpec : ChangeSpec := { name := "payoutNil", fn := fun _ => fun
  | [d1, d2] => { results := [.lit (.bool true)], args := [d1, d2] }
  | _ => none }
def payoutNilRow : OpenClaim := { program := "ytjnniobafdchlaa", sum := "e33be7094fc82cc881b96dbf67eeace2eaa2a6b30072c770e364cc5fd505379a", func := "psephos/psephoslaw20.PayoutNil", spec := "payoutNil", unfollowed := true, recurses := true, apart := false }
def PayoutNilSaid : Prop := payoutNilRow.holds Try.pinned (OpenSpec.ofChange payoutNilSpec)

/-- ITS FALSE NEIGHBOUR: 'it returns false'. Refute it at one input. -/
def payoutNilWrong : ChangeSpec := { name := "payoutNil", fn := fun _ => fun
  | [d1, d2] => { results := [.lit (.bool false)], args := [d1, d2] }
  | _ => none }
def PayoutNilWrongFalsely : Prop := payoutNilRow.holds Try.pinned (OpenSpec.ofChange payoutNilWrong)

/- THE SECOND FORM. 'bulk': how many values and letters a reading holds, each counted each time it is reached (what is shared counts as often as it is met; a slice's spare places count too). A statement '..UptoSaid' is the law's where the arguments, and the package variables that the reading takes, are together of bulk at most 1048576: NARROWER than '..Said'. Prove '..Said' where nothing that the law and all that it calls make is longer than what came in: it says more and counts as full. Else prove '..UptoSaid'. A law counts once. -/
mutual
def uptoBulk {H : Type} : DataW H → Nat
  | .lit (.string bytes) => bytes.length + 1
  | .lit _ => 1
  | .nil => 1
  | .ptr d => uptoBulk d + 1
  | .slice elems spare => uptoBulkAll elems + uptoBulkAll spare + 1
  | .agg parts => uptoBulkAll parts + 1
  | .iface _ d => uptoBulk d + 1
  | .map entries => uptoBulkEntries entries + 1
  | .held _ => 1
def uptoBulkAll {H : Type} : List (DataW H) → Nat
  | [] => 0
  | d :: r => uptoBulk d + uptoBulkAll r
def uptoBulkEntries {H : Type} : List (Lit × DataW H) → Nat
  | [] => 0
  | x :: r => uptoBulkEntry x + uptoBulkEntries r
def uptoBulkEntry {H : Type} : Lit × DataW H → Nat
  | (.string bytes, d) => bytes.length + uptoBulk d + 1
  | (_, d) => uptoBulk d + 1
 end
def uptoSmall : (H : Type) → List (DataW H) → Bool := fun _ ds => decide (uptoBulkAll ds ≤ 1048576)
def OpenSpec.upto (s : _root_.Go.ChangeSpec) : _root_.Go.OpenSpec := { _root_.Go.OpenSpec.ofChange s with cond := some uptoSmall }

/-- 'psephoslaw20.PayoutShares', WHERE WHAT IT READS IS OF BULK AT MOST 1048576: true; the input reads as it did. -/
def payoutSharesUptoRow : OpenClaim := { program := "ytjnniobafdchlaa", sum := "e33be7094fc82cc881b96dbf67eeace2eaa2a6b30072c770e364cc5fd505379a", func := "psephos/psephoslaw20.PayoutShares", spec := "payoutShares", unfollowed := true, recurses := true, apart := false, narrowed := true }
def PayoutSharesUptoSaid : Prop := payoutSharesUptoRow.holds Try.pinned (OpenSpec.upto payoutSharesSpec)

/-- 'psephoslaw20.PayoutWhole', WHERE WHAT IT READS IS OF BULK AT MOST 1048576: true; the input reads as it did. -/
def payoutWholeUptoRow : OpenClaim := { program := "ytjnniobafdchlaa", sum := "e33be7094fc82cc881b96dbf67eeace2eaa2a6b30072c770e364cc5fd505379a", func := "psephos/psephoslaw20.PayoutWhole", spec := "payoutWhole", unfollowed := true, recurses := true, apart := false, narrowed := true }
def PayoutWholeUptoSaid : Prop := payoutWholeUptoRow.holds Try.pinned (OpenSpec.upto payoutWholeSpec)

/-- 'psephoslaw20.PayoutNil', WHERE WHAT IT READS IS OF BULK AT MOST 1048576: true; the input reads as it did. -/
def payoutNilUptoRow : OpenClaim := { program := "ytjnniobafdchlaa", sum := "e33be7094fc82cc881b96dbf67eeace2eaa2a6b30072c770e364cc5fd505379a", func := "psephos/psephoslaw20.PayoutNil", spec := "payoutNil", unfollowed := true, recurses := true, apart := false, narrowed := true }
def PayoutNilUptoSaid : Prop := payoutNilUptoRow.holds Try.pinned (OpenSpec.upto payoutNilSpec)

end Rows
end Go.Proofs.Ytjnniobafdchlaa
