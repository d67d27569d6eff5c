/-
  No cell of these rows narrows 'for every input' (looked for: loops, veiled, ifaces, maps, wideKeys, modest, calm, conditions, laid).
  DERIVED. THE GIVEN ROWS OF THIS SEAT. 3 by the template 'for every input the law returns true; each argument reads behind the call as it read before'; 0 by the template 'total and deterministic' (their statements: YtfffibpckjjnfaaTotals.lean).
  GIVEN WITH THE SEED: the statements are not yours to turn. If you find one false, say at which input.
  Laid BY PROGRAM, IN A SANDBOX (cutbox-rows.mjs): the forced cells as the released guide's own fill.sh prints them over the translation ad7b00cc13b8baaa… (all of the seat's roots in one cut). By AI agents, Wed Nov 11 2026. No macro, syntax, notation, axiom, sorry.
-/
import Derived.Test.YtfffibpckjjnfaaChecked
import GoSem.Claim
import GoSem.ClaimJoined
import GoSem.ClaimMapViews
import Derived.JoinedTies
import Derived.KernelRfl
namespace Go.Proofs.Ytfffibpckjjnfaa
/- THE CELL 'sum', in the pinned program and in every row, IS THE sha256 OF THE DUMP (.gsa) THAT YtfffibpckjjnfaaProg.lean LOADS. Nothing in Lean hashes anything: it is a label: what it is worth is what the hold of that sum in a sandbox is worth. -/
noncomputable def Try.pinned : Pinned := { name := "ytfffibpckjjnfaa", sum := "ad7b00cc13b8baaa842ec22de8a40aacf95f009de01eecbf59d25d8201abaca0", checked := Try.checked }
namespace Rows
def none {H : Type} : Left H := { results := [], args := [] }

/-- 'psephoslaw11.PhragmenSupports': WHATEVER THE INPUT: true; the input reads as it did. -/
def phragmenSupportsSpec : ChangeSpec := { name := "phragmenSupports", fn := fun _ => fun
  | [d1, d2] => { results := [.lit (.bool true)], args := [d1, d2] }
  | _ => none }
def phragmenSupportsRow : OpenClaim := { program := "ytfffibpckjjnfaa", sum := "ad7b00cc13b8baaa842ec22de8a40aacf95f009de01eecbf59d25d8201abaca0", func := "psephos/psephoslaw11.PhragmenSupports", spec := "phragmenSupports", unfollowed := true, recurses := true, apart := false }
def PhragmenSupportsSaid : Prop := phragmenSupportsRow.holds Try.pinned (OpenSpec.ofChange phragmenSupportsSpec)

/-- ITS FALSE NEIGHBOUR: 'it returns false'. Refute it at one input. -/
def phragmenSupportsWrong : ChangeSpec := { name := "phragmenSupports", fn := fun _ => fun
  | [d1, d2] => { results := [.lit (.bool false)], args := [d1, d2] }
  | _ => none }
def PhragmenSupportsWrongFalsely : Prop := phragmenSupportsRow.holds Try.pinned (OpenSpec.ofChange phragmenSupportsWrong)

/-- 'psephoslaw13.WholeRounds': WHATEVER THE INPUT: true; the input reads as it did. -/
def wholeRoundsSpec : ChangeSpec := { name := "wholeRounds", fn := fun _ => fun
  | [d] => { results := [.lit (.bool true)], args := [d] }
  | _ => none }
def wholeRoundsRow : OpenClaim := { program := "ytfffibpckjjnfaa", sum := "ad7b00cc13b8baaa842ec22de8a40aacf95f009de01eecbf59d25d8201abaca0", func := "psephos/psephoslaw13.WholeRounds", spec := "wholeRounds", unfollowed := true, recurses := true, apart := false }
def WholeRoundsSaid : Prop := wholeRoundsRow.holds Try.pinned (OpenSpec.ofChange wholeRoundsSpec)

/-- ITS FALSE NEIGHBOUR: 'it returns false'. Refute it at one input. -/
def wholeRoundsWrong : ChangeSpec := { name := "wholeRounds", fn := fun _ => fun
  | [d] => { results := [.lit (.bool false)], args := [d] }
  | _ => none }
def WholeRoundsWrongFalsely : Prop := wholeRoundsRow.holds Try.pinned (OpenSpec.ofChange wholeRoundsWrong)

/-- 'psephoslaw13.WholeNear': WHATEVER THE INPUT: true; the input reads as it did. -/
def wholeNearSpec : ChangeSpec := { name := "wholeNear", fn := fun _ => fun
  | [d] => { results := [.lit (.bool true)], args := [d] }
  | _ => none }
def wholeNearRow : OpenClaim := { program := "ytfffibpckjjnfaa", sum := "ad7b00cc13b8baaa842ec22de8a40aacf95f009de01eecbf59d25d8201abaca0", func := "psephos/psephoslaw13.WholeNear", spec := "wholeNear", unfollowed := true, recurses := true, apart := false }
def WholeNearSaid : Prop := wholeNearRow.holds Try.pinned (OpenSpec.ofChange wholeNearSpec)

/-- ITS FALSE NEIGHBOUR: 'it returns false'. Refute it at one input. -/
def wholeNearWrong : ChangeSpec := { name := "wholeNear", fn := fun _ => fun
  | [d] => { results := [.lit (.bool false)], args := [d] }
  | _ => none }
def WholeNearWrongFalsely : Prop := wholeNearRow.holds Try.pinned (OpenSpec.ofChange wholeNearWrong)

/- THE SECOND FORM. 'bulk': how many values and letters a reading holds, each counted each time it is reached (what is shared counts as often as it is met; a slice's spare places count too). A statement '..UptoSaid' is the law's where the arguments, and the package variables that the reading takes, are together of bulk at most 1048576: NARROWER than '..Said'. Prove '..Said' where nothing that the law and all that it calls make is longer than what came in: it says more and counts as full. Else prove '..UptoSaid'. A law counts once. -/
mutual
def uptoBulk {H : Type} : DataW H → Nat
  | .lit (.string bytes) => bytes.length + 1
  | .lit _ => 1
  | .nil => 1
  | .ptr d => uptoBulk d + 1
  | .slice elems spare => uptoBulkAll elems + uptoBulkAll spare + 1
  | .agg parts => uptoBulkAll parts + 1
  | .iface _ d => uptoBulk d + 1
  | .map entries => uptoBulkEntries entries + 1
  | .held _ => 1
def uptoBulkAll {H : Type} : List (DataW H) → Nat
  | [] => 0
  | d :: r => uptoBulk d + uptoBulkAll r
def uptoBulkEntries {H : Type} : List (Lit × DataW H) → Nat
  | [] => 0
  | x :: r => uptoBulkEntry x + uptoBulkEntries r
def uptoBulkEntry {H : Type} : Lit × DataW H → Nat
  | (.string bytes, d) => bytes.length + uptoBulk d + 1
  | (_, d) => uptoBulk d + 1
 end
def uptoSmall : (H : Type) → List (DataW H) → Bool := fun _ ds => decide (uptoBulkAll ds ≤ 1048576)
def OpenSpec.upto (s : _root_.Go.ChangeSpec) : _root_.Go.OpenSpec := { _root_.Go.OpenSpec.ofChange s with cond := some uptoSmall }

/-- 'psephoslaw11.PhragmenSupports', WHERE WHAT IT READS IS OF BULK AT MOST 1048576: true; the input reads as it did. -/
def phragmenSupportsUptoRow : OpenClaim := { program := "ytfffibpckjjnfaa", sum := "ad7b00cc13b8baaa842ec22de8a40aacf95f009de01eecbf59d25d8201abaca0", func := "psephos/psephoslaw11.PhragmenSupports", spec := "phragmenSupports", unfollowed := true, recurses := true, apart := false, narrowed := true }
def PhragmenSupportsUptoSaid : Prop := phragmenSupportsUptoRow.holds Try.pinned (OpenSpec.upto phragmenSupportsSpec)

/-- 'psephoslaw13.WholeRounds', WHERE WHAT IT READS IS OF BULK AT MOST 1048576: true; the input reads as it did. -/
def wholeRoundsUptoRow : OpenClaim := { program := "ytfffibpckjjnfaa", sum := "ad7b00cc13b8baaa842ec22de8a40aacf95f009de01eecbf59d25d8201abaca0", func := "psephos/psephoslaw13.WholeRounds", spec := "wholeRounds", unfollowed := true, recurses := true, apart := false, narrowed := true }
def WholeRoundsUptoSaid : Prop := wholeRoundsUptoRow.holds Try.pinned (OpenSpec.upto wholeRoundsSpec)

/-- 'psephoslaw13.WholeNear', WHERE WHAT IT READS IS OF BULK AT MOST 1048576: true; the input reads as it did. -/
def wholeNearUptoRow : OpenClaim := { program := "ytfffibpckjjnfaa", sum := "ad7b00cc13b8baaa842ec22de8a40aacf95f009de01eecbf59d25d8201abaca0", func := "psephos/psephoslaw13.WholeNear", spec := "wholeNear", unfollowed := true, recurses := true, apart := false, narrowed := true }
def WholeNearUptoSaid : Prop := wholeNearUptoRow.holds Try.pinned (OpenSpec.upto wholeNearSpec)

end Rows
end Go.Proofs.Ytfffibpckjjnfaa
