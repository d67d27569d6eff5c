/-
  No cell of these rows narrows 'for every input' (looked for: loops, veiled, ifaces, maps, wideKeys, modest, calm, conditions, laid).
  DERIVED. THE GIVEN ROWS OF THIS SEAT. 4 by the template 'for every input the law returns true; each argument reads behind the call as it read before'; 0 by the template 'total and deterministic' (their statements: YtphmegjmmjmbeaaTotals.lean).
  GIVEN WITH THE SEED: the statements are not yours to turn. If you find one false, say at which input.
  Laid BY PROGRAM, IN A SANDBOX (cutbox-rows.mjs): the forced cells as the released guide's own fill.sh prints them over the translation 4364e3b915166975… (all of the seat's roots in one cut). By AI agents, Wed Nov 11 2026. No macro, syntax, notation, axiom, sorry.
-/
import Derived.Test.YtphmegjmmjmbeaaChecked
import GoSem.Claim
import GoSem.ClaimJoined
import GoSem.ClaimMapViews
import Derived.JoinedTies
import Derived.KernelRfl
namespace Go.Proofs.Ytphmegjmmjmbeaa
/- THE CELL 'sum', in the pinned program and in every row, IS THE sha256 OF THE DUMP (.gsa) THAT YtphmegjmmjmbeaaProg.lean LOADS. Nothing in Lean hashes anything: it is a label: what it is worth is what the hold of that sum in a sandbox is worth. -/
noncomputable def Try.pinned : Pinned := { name := "ytphmegjmmjmbeaa", sum := "4364e3b91516697547474fc746652e632394c2a73d0f6682a3790ac6784108c8", checked := Try.checked }
namespace Rows
def none {H : Type} : Left H := { results := [], args := [] }

/-- 'psephoslaw11.PhragmenFair': WHATEVER THE INPUT: true; the input reads as it did. -/
def phragmenFairSpec : ChangeSpec := { name := "phragmenFair", fn := fun _ => fun
  | [d1, d2] => { results := [.lit (.bool true)], args := [d1, d2] }
  | _ => none }
def phragmenFairRow : OpenClaim := { program := "ytphmegjmmjmbeaa", sum := "4364e3b91516697547474fc746652e632394c2a73d0f6682a3790ac6784108c8", func := "psephos/psephoslaw11.PhragmenFair", spec := "phragmenFair", unfollowed := true, recurses := true, apart := false }
def PhragmenFairSaid : Prop := phragmenFairRow.holds Try.pinned (OpenSpec.ofChange phragmenFairSpec)

/-- ITS FALSE NEIGHBOUR: 'it returns false'. Refute it at one input. -/
def phragmenFairWrong : ChangeSpec := { name := "phragmenFair", fn := fun _ => fun
  | [d1, d2] => { results := [.lit (.bool false)], args := [d1, d2] }
  | _ => none }
def PhragmenFairWrongFalsely : Prop := phragmenFairRow.holds Try.pinned (OpenSpec.ofChange phragmenFairWrong)

/-- 'psephoslaw11.PhragmenIdle': WHATEVER THE INPUT: true; the input reads as it did. -/
def phragmenIdleSpec : ChangeSpec := { name := "phragmenIdle", fn := fun _ => fun
  | [d1, d2, d3, d4] => { results := [.lit (.bool true)], args := [d1, d2, d3, d4] }
  | _ => none }
def phragmenIdleRow : OpenClaim := { program := "ytphmegjmmjmbeaa", sum := "4364e3b91516697547474fc746652e632394c2a73d0f6682a3790ac6784108c8", func := "psephos/psephoslaw11.PhragmenIdle", spec := "phragmenIdle", unfollowed := true, recurses := true, apart := false }
def PhragmenIdleSaid : Prop := phragmenIdleRow.holds Try.pinned (OpenSpec.ofChange phragmenIdleSpec)

/-- ITS FALSE NEIGHBOUR: 'it returns false'. Refute it at one input. -/
def phragmenIdleWrong : ChangeSpec := { name := "phragmenIdle", fn := fun _ => fun
  | [d1, d2, d3, d4] => { results := [.lit (.bool false)], args := [d1, d2, d3, d4] }
  | _ => none }
def PhragmenIdleWrongFalsely : Prop := phragmenIdleRow.holds Try.pinned (OpenSpec.ofChange phragmenIdleWrong)

/-- 'psephoslaw11.PhragmenScaled': WHATEVER THE INPUT: true; the input reads as it did. -/
def phragmenScaledSpec : ChangeSpec := { name := "phragmenScaled", fn := fun _ => fun
  | [d1, d2, d3] => { results := [.lit (.bool true)], args := [d1, d2, d3] }
  | _ => none }
def phragmenScaledRow : OpenClaim := { program := "ytphmegjmmjmbeaa", sum := "4364e3b91516697547474fc746652e632394c2a73d0f6682a3790ac6784108c8", func := "psephos/psephoslaw11.PhragmenScaled", spec := "phragmenScaled", unfollowed := true, recurses := true, apart := false }
def PhragmenScaledSaid : Prop := phragmenScaledRow.holds Try.pinned (OpenSpec.ofChange phragmenScaledSpec)

/-- ITS FALSE NEIGHBOUR: 'it returns false'. Refute it at one input. -/
def phragmenScaledWrong : ChangeSpec := { name := "phragmenScaled", fn := fun _ => fun
  | [d1, d2, d3] => { results := [.lit (.bool false)], args := [d1, d2, d3] }
  | _ => none }
def PhragmenScaledWrongFalsely : Prop := phragmenScaledRow.holds Try.pinned (OpenSpec.ofChange phragmenScaledWrong)

/-- 'psephoslaw11.PhragmenRises': WHATEVER THE INPUT: true; the input reads as it did. -/
def phragmenRisesSpec : ChangeSpec := { name := "phragmenRises", fn := fun _ => fun
  | [d1, d2] => { results := [.lit (.bool true)], args := [d1, d2] }
  | _ => none }
def phragmenRisesRow : OpenClaim := { program := "ytphmegjmmjmbeaa", sum := "4364e3b91516697547474fc746652e632394c2a73d0f6682a3790ac6784108c8", func := "psephos/psephoslaw11.PhragmenRises", spec := "phragmenRises", unfollowed := true, recurses := true, apart := false }
def PhragmenRisesSaid : Prop := phragmenRisesRow.holds Try.pinned (OpenSpec.ofChange phragmenRisesSpec)

/-- ITS FALSE NEIGHBOUR: 'it returns false'. Refute it at one input. -/
def phragmenRisesWrong : ChangeSpec := { name := "phragmenRises", fn := fun _ => fun
  | [d1, d2] => { results := [.lit (.bool false)], args := [d1, d2] }
  | _ => none }
def PhragmenRisesWrongFalsely : Prop := phragmenRisesRow.holds Try.pinned (OpenSpec.ofChange phragmenRisesWrong)

/- THE SECOND FORM. 'bulk': how many values and letters a reading holds, each counted each time it is reached (what is shared counts as often as it is met; a slice's spare places count too). A statement '..UptoSaid' is the law's where the arguments, and the package variables that the reading takes, are together of bulk at most 1048576: NARROWER than '..Said'. Prove '..Said' where nothing that the law and all that it calls make is longer than what came in: it says more and counts as full. Else prove '..UptoSaid'. A law counts once. -/
mutual
def uptoBulk {H : Type} : DataW H → Nat
  | .lit (.string bytes) => bytes.length + 1
  | .lit _ => 1
  | .nil => 1
  | .ptr d => uptoBulk d + 1
  | .slice elems spare => uptoBulkAll elems + uptoBulkAll spare + 1
  | .agg parts => uptoBulkAll parts + 1
  | .iface _ d => uptoBulk d + 1
  | .map entries => uptoBulkEntries entries + 1
  | .held _ => 1
def uptoBulkAll {H : Type} : List (DataW H) → Nat
  | [] => 0
  | d :: r => uptoBulk d + uptoBulkAll r
def uptoBulkEntries {H : Type} : List (Lit × DataW H) → Nat
  | [] => 0
  | x :: r => uptoBulkEntry x + uptoBulkEntries r
def uptoBulkEntry {H : Type} : Lit × DataW H → Nat
  | (.string bytes, d) => bytes.length + uptoBulk d + 1
  | (_, d) => uptoBulk d + 1
 end
def uptoSmall : (H : Type) → List (DataW H) → Bool := fun _ ds => decide (uptoBulkAll ds ≤ 1048576)
def OpenSpec.upto (s : _root_.Go.ChangeSpec) : _root_.Go.OpenSpec := { _root_.Go.OpenSpec.ofChange s with cond := some uptoSmall }

/-- 'psephoslaw11.PhragmenFair', WHERE WHAT IT READS IS OF BULK AT MOST 1048576: true; the input reads as it did. -/
def phragmenFairUptoRow : OpenClaim := { program := "ytphmegjmmjmbeaa", sum := "4364e3b91516697547474fc746652e632394c2a73d0f6682a3790ac6784108c8", func := "psephos/psephoslaw11.PhragmenFair", spec := "phragmenFair", unfollowed := true, recurses := true, apart := false, narrowed := true }
def PhragmenFairUptoSaid : Prop := phragmenFairUptoRow.holds Try.pinned (OpenSpec.upto phragmenFairSpec)

/-- 'psephoslaw11.PhragmenIdle', WHERE WHAT IT READS IS OF BULK AT MOST 1048576: true; the input reads as it did. -/
def phragmenIdleUptoRow : OpenClaim := { program := "ytphmegjmmjmbeaa", sum := "4364e3b91516697547474fc746652e632394c2a73d0f6682a3790ac6784108c8", func := "psephos/psephoslaw11.PhragmenIdle", spec := "phragmenIdle", unfollowed := true, recurses := true, apart := false, narrowed := true }
def PhragmenIdleUptoSaid : Prop := phragmenIdleUptoRow.holds Try.pinned (OpenSpec.upto phragmenIdleSpec)

/-- 'psephoslaw11.PhragmenScaled', WHERE WHAT IT READS IS OF BULK AT MOST 1048576: true; the input reads as it did. -/
def phragmenScaledUptoRow : OpenClaim := { program := "ytphmegjmmjmbeaa", sum := "4364e3b91516697547474fc746652e632394c2a73d0f6682a3790ac6784108c8", func := "psephos/psephoslaw11.PhragmenScaled", spec := "phragmenScaled", unfollowed := true, recurses := true, apart := false, narrowed := true }
def PhragmenScaledUptoSaid : Prop := phragmenScaledUptoRow.holds Try.pinned (OpenSpec.upto phragmenScaledSpec)

/-- 'psephoslaw11.PhragmenRises', WHERE WHAT IT READS IS OF BULK AT MOST 1048576: true; the input reads as it did. -/
def phragmenRisesUptoRow : OpenClaim := { program := "ytphmegjmmjmbeaa", sum := "4364e3b91516697547474fc746652e632394c2a73d0f6682a3790ac6784108c8", func := "psephos/psephoslaw11.PhragmenRises", spec := "phragmenRises", unfollowed := true, recurses := true, apart := false, narrowed := true }
def PhragmenRisesUptoSaid : Prop := phragmenRisesUptoRow.holds Try.pinned (OpenSpec.upto phragmenRisesSpec)

end Rows
end Go.Proofs.Ytphmegjmmjmbeaa
