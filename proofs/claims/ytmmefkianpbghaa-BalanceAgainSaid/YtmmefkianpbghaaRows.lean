/-
  No cell of these rows narrows 'for every input' (looked for: loops, veiled, ifaces, maps, wideKeys, modest, calm, conditions, laid).
  DERIVED. THE GIVEN ROWS OF THIS SEAT. 2 by the template 'for every input the law returns true; each argument reads behind the call as it read before'; 0 by the template 'total and deterministic' (their statements: YtmmefkianpbghaaTotals.lean).
  GIVEN WITH THE SEED: the statements are not yours to turn. If you find one false, say at which input.
  Laid BY PROGRAM, IN A SANDBOX (cutbox-rows.mjs): the forced cells as the released guide's own fill.sh prints them over the translation b72b7f3af9a3ebdf… (all of the seat's roots in one cut). By AI agents, Wed Nov 11 2026. No macro, syntax, notation, axiom, sorry.
-/
import Derived.Test.YtmmefkianpbghaaChecked
import GoSem.Claim
import GoSem.ClaimJoined
import GoSem.ClaimMapViews
import Derived.JoinedTies
import Derived.KernelRfl
namespace Go.Proofs.Ytmmefkianpbghaa
/- THE CELL 'sum', in the pinned program and in every row, IS THE sha256 OF THE DUMP (.gsa) THAT YtmmefkianpbghaaProg.lean LOADS. Nothing in Lean hashes anything: it is a label: what it is worth is what the hold of that sum in a sandbox is worth. -/
noncomputable def Try.pinned : Pinned := { name := "ytmmefkianpbghaa", sum := "b72b7f3af9a3ebdf046cccaa9f726f8d3d8d17bc4d796d068fd2106f2bcbaa5f", checked := Try.checked }
namespace Rows
def none {H : Type} : Left H := { results := [], args := [] }

/-- 'psephoslaw12.BalanceFills': WHATEVER THE INPUT: true; the input reads as it did. -/
def balanceFillsSpec : ChangeSpec := { name := "balanceFills", fn := fun _ => fun
  | [d1, d2] => { results := [.lit (.bool true)], args := [d1, d2] }
  | _ => none }
def balanceFillsRow : OpenClaim := { program := "ytmmefkianpbghaa", sum := "b72b7f3af9a3ebdf046cccaa9f726f8d3d8d17bc4d796d068fd2106f2bcbaa5f", func := "psephos/psephoslaw12.BalanceFills", spec := "balanceFills", unfollowed := true, recurses := true, apart := false }
def BalanceFillsSaid : Prop := balanceFillsRow.holds Try.pinned (OpenSpec.ofChange balanceFillsSpec)

/-- ITS FALSE NEIGHBOUR: 'it returns false'. Refute it at one input. -/
def balanceFillsWrong : ChangeSpec := { name := "balanceFills", fn := fun _ => fun
  | [d1, d2] => { results := [.lit (.bool false)], args := [d1, d2] }
  | _ => none }
def BalanceFillsWrongFalsely : Prop := balanceFillsRow.holds Try.pinned (OpenSpec.ofChange balanceFillsWrong)

/-- 'psephoslaw12.BalanceAgain': WHATEVER THE INPUT: true; the input reads as it did. -/
def balanceAgainSpec : ChangeSpec := { name := "balanceAgain", fn := fun _ => fun
  | [d1, d2, d3] => { results := [.lit (.bool true)], args := [d1, d2, d3] }
  | _ => none }
def balanceAgainRow : OpenClaim := { program := "ytmmefkianpbghaa", sum := "b72b7f3af9a3ebdf046cccaa9f726f8d3d8d17bc4d796d068fd2106f2bcbaa5f", func := "psephos/psephoslaw12.BalanceAgain", spec := "balanceAgain", unfollowed := true, recurses := true, apart := false }
def BalanceAgainSaid : Prop := balanceAgainRow.holds Try.pinned (OpenSpec.ofChange balanceAgainSpec)

/-- ITS FALSE NEIGHBOUR: 'it returns false'. Refute it at one input. -/
def balanceAgainWrong : ChangeSpec := { name := "balanceAgain", fn := fun _ => fun
  | [d1, d2, d3] => { results := [.lit (.bool false)], args := [d1, d2, d3] }
  | _ => none }
def BalanceAgainWrongFalsely : Prop := balanceAgainRow.holds Try.pinned (OpenSpec.ofChange balanceAgainWrong)

/- THE SECOND FORM. 'bulk': how many values and letters a reading holds, each counted each time it is reached (what is shared counts as often as it is met; a slice's spare places count too). A statement '..UptoSaid' is the law's where the arguments, and the package variables that the reading takes, are together of bulk at most 1048576: NARROWER than '..Said'. Prove '..Said' where nothing that the law and all that it calls make is longer than what came in: it says more and counts as full. Else prove '..UptoSaid'. A law counts once. -/
mutual
def uptoBulk {H : Type} : DataW H → Nat
  | .lit (.string bytes) => bytes.length + 1
  | .lit _ => 1
  | .nil => 1
  | .ptr d => uptoBulk d + 1
  | .slice elems spare => uptoBulkAll elems + uptoBulkAll spare + 1
  | .agg parts => uptoBulkAll parts + 1
  | .iface _ d => uptoBulk d + 1
  | .map entries => uptoBulkEntries entries + 1
  | .held _ => 1
def uptoBulkAll {H : Type} : List (DataW H) → Nat
  | [] => 0
  | d :: r => uptoBulk d + uptoBulkAll r
def uptoBulkEntries {H : Type} : List (Lit × DataW H) → Nat
  | [] => 0
  | x :: r => uptoBulkEntry x + uptoBulkEntries r
def uptoBulkEntry {H : Type} : Lit × DataW H → Nat
  | (.string bytes, d) => bytes.length + uptoBulk d + 1
  | (_, d) => uptoBulk d + 1
 end
def uptoSmall : (H : Type) → List (DataW H) → Bool := fun _ ds => decide (uptoBulkAll ds ≤ 1048576)
def OpenSpec.upto (s : _root_.Go.ChangeSpec) : _root_.Go.OpenSpec := { _root_.Go.OpenSpec.ofChange s with cond := some uptoSmall }

/-- 'psephoslaw12.BalanceFills', WHERE WHAT IT READS IS OF BULK AT MOST 1048576: true; the input reads as it did. -/
def balanceFillsUptoRow : OpenClaim := { program := "ytmmefkianpbghaa", sum := "b72b7f3af9a3ebdf046cccaa9f726f8d3d8d17bc4d796d068fd2106f2bcbaa5f", func := "psephos/psephoslaw12.BalanceFills", spec := "balanceFills", unfollowed := true, recurses := true, apart := false, narrowed := true }
def BalanceFillsUptoSaid : Prop := balanceFillsUptoRow.holds Try.pinned (OpenSpec.upto balanceFillsSpec)

/-- 'psephoslaw12.BalanceAgain', WHERE WHAT IT READS IS OF BULK AT MOST 1048576: true; the input reads as it did. -/
def balanceAgainUptoRow : OpenClaim := { program := "ytmmefkianpbghaa", sum := "b72b7f3af9a3ebdf046cccaa9f726f8d3d8d17bc4d796d068fd2106f2bcbaa5f", func := "psephos/psephoslaw12.BalanceAgain", spec := "balanceAgain", unfollowed := true, recurses := true, apart := false, narrowed := true }
def BalanceAgainUptoSaid : Prop := balanceAgainUptoRow.holds Try.pinned (OpenSpec.upto balanceAgainSpec)

end Rows
end Go.Proofs.Ytmmefkianpbghaa
