/-
  No cell of these rows narrows 'for every input' (looked for: loops, veiled, ifaces, maps, wideKeys, modest, calm, conditions, laid).
  DERIVED. THE GIVEN ROWS OF THIS SEAT. 11 by the template 'for every input the law returns true; each argument reads behind the call as it read before'; 0 by the template 'total and deterministic' (their statements: YtapmhmkekkhhpaaTotals.lean).
  GIVEN WITH THE SEED: the statements are not yours to turn. If you find one false, say at which input.
  Laid BY PROGRAM, IN A SANDBOX (cutbox-rows.mjs): the forced cells as the released guide's own fill.sh prints them over the translation a458e5d91ef51bf0… (all of the seat's roots in one cut). By AI agents, Wed Nov 11 2026. No macro, syntax, notation, axiom, sorry.
-/
import Derived.Test.YtapmhmkekkhhpaaChecked
import GoSem.Claim
import GoSem.ClaimJoined
import GoSem.ClaimMapViews
import Derived.JoinedTies
import Derived.KernelRfl
namespace Go.Proofs.Ytapmhmkekkhhpaa
/- THE CELL 'sum', in the pinned program and in every row, IS THE sha256 OF THE DUMP (.gsa) THAT YtapmhmkekkhhpaaProg.lean LOADS. Nothing in Lean hashes anything: it is a label: what it is worth is what the hold of that sum in a sandbox is worth. -/
noncomputable def Try.pinned : Pinned := { name := "ytapmhmkekkhhpaa", sum := "a458e5d91ef51bf0c4395cbbcf0059fa7a81db0971d7c32720efa52cc7eaeb4c", checked := Try.checked }
namespace Rows
def none {H : Type} : Left H := { results := [], args := [] }

/-- 'psephoslaw06.MoneyAdds': WHATEVER THE INPUT: true; the input reads as it did. -/
def moneyAddsSpec : ChangeSpec := { name := "moneyAdds", fn := fun _ => fun
  | [d1, d2, d3] => { results := [.lit (.bool true)], args := [d1, d2, d3] }
  | _ => none }
def moneyAddsRow : OpenClaim := { program := "ytapmhmkekkhhpaa", sum := "a458e5d91ef51bf0c4395cbbcf0059fa7a81db0971d7c32720efa52cc7eaeb4c", func := "psephos/psephoslaw06.MoneyAdds", spec := "moneyAdds", apart := false }
def MoneyAddsSaid : Prop := moneyAddsRow.holds Try.pinned (OpenSpec.ofChange moneyAddsSpec)

/-- ITS FALSE NEIGHBOUR: 'it returns false'. Refute it at one input. -/
def moneyAddsWrong : ChangeSpec := { name := "moneyAdds", fn := fun _ => fun
  | [d1, d2, d3] => { results := [.lit (.bool false)], args := [d1, d2, d3] }
  | _ => none }
def MoneyAddsWrongFalsely : Prop := moneyAddsRow.holds Try.pinned (OpenSpec.ofChange moneyAddsWrong)

/-- 'psephoslaw01.LimbForms': WHATEVER THE INPUT: true; the input reads as it did. -/
def limbFormsSpec : ChangeSpec := { name := "limbForms", fn := fun _ => fun
  | [d1, d2] => { results := [.lit (.bool true)], args := [d1, d2] }
  | _ => none }
def limbFormsRow : OpenClaim := { program := "ytapmhmkekkhhpaa", sum := "a458e5d91ef51bf0c4395cbbcf0059fa7a81db0971d7c32720efa52cc7eaeb4c", func := "psephos/psephoslaw01.LimbForms", spec := "limbForms", unfollowed := true, recurses := true, apart := false }
def LimbFormsSaid : Prop := limbFormsRow.holds Try.pinned (OpenSpec.ofChange limbFormsSpec)

/-- ITS FALSE NEIGHBOUR: 'it returns false'. Refute it at one input. -/
def limbFormsWrong : ChangeSpec := { name := "limbForms", fn := fun _ => fun
  | [d1, d2] => { results := [.lit (.bool false)], args := [d1, d2] }
  | _ => none }
def LimbFormsWrongFalsely : Prop := limbFormsRow.holds Try.pinned (OpenSpec.ofChange limbFormsWrong)

/-- 'psephoslaw01.LimbProducts': WHATEVER THE INPUT: true; the input reads as it did. -/
def limbProductsSpec : ChangeSpec := { name := "limbProducts", fn := fun _ => fun
  | [d1, d2] => { results := [.lit (.bool true)], args := [d1, d2] }
  | _ => none }
def limbProductsRow : OpenClaim := { program := "ytapmhmkekkhhpaa", sum := "a458e5d91ef51bf0c4395cbbcf0059fa7a81db0971d7c32720efa52cc7eaeb4c", func := "psephos/psephoslaw01.LimbProducts", spec := "limbProducts", unfollowed := true, recurses := true, apart := false }
def LimbProductsSaid : Prop := limbProductsRow.holds Try.pinned (OpenSpec.ofChange limbProductsSpec)

/-- ITS FALSE NEIGHBOUR: 'it returns false'. Refute it at one input. -/
def limbProductsWrong : ChangeSpec := { name := "limbProducts", fn := fun _ => fun
  | [d1, d2] => { results := [.lit (.bool false)], args := [d1, d2] }
  | _ => none }
def LimbProductsWrongFalsely : Prop := limbProductsRow.holds Try.pinned (OpenSpec.ofChange limbProductsWrong)

/-- 'psephoslaw01.LimbSums': WHATEVER THE INPUT: true; the input reads as it did. -/
def limbSumsSpec : ChangeSpec := { name := "limbSums", fn := fun _ => fun
  | [d1, d2] => { results := [.lit (.bool true)], args := [d1, d2] }
  | _ => none }
def limbSumsRow : OpenClaim := { program := "ytapmhmkekkhhpaa", sum := "a458e5d91ef51bf0c4395cbbcf0059fa7a81db0971d7c32720efa52cc7eaeb4c", func := "psephos/psephoslaw01.LimbSums", spec := "limbSums", unfollowed := true, recurses := true, apart := false }
def LimbSumsSaid : Prop := limbSumsRow.holds Try.pinned (OpenSpec.ofChange limbSumsSpec)

/-- ITS FALSE NEIGHBOUR: 'it returns false'. Refute it at one input. -/
def limbSumsWrong : ChangeSpec := { name := "limbSums", fn := fun _ => fun
  | [d1, d2] => { results := [.lit (.bool false)], args := [d1, d2] }
  | _ => none }
def LimbSumsWrongFalsely : Prop := limbSumsRow.holds Try.pinned (OpenSpec.ofChange limbSumsWrong)

/-- 'psephoslaw01.LimbRules': WHATEVER THE INPUT: true; the input reads as it did. -/
def limbRulesSpec : ChangeSpec := { name := "limbRules", fn := fun _ => fun
  | [d1, d2, d3] => { results := [.lit (.bool true)], args := [d1, d2, d3] }
  | _ => none }
def limbRulesRow : OpenClaim := { program := "ytapmhmkekkhhpaa", sum := "a458e5d91ef51bf0c4395cbbcf0059fa7a81db0971d7c32720efa52cc7eaeb4c", func := "psephos/psephoslaw01.LimbRules", spec := "limbRules", unfollowed := true, recurses := true, apart := false }
def LimbRulesSaid : Prop := limbRulesRow.holds Try.pinned (OpenSpec.ofChange limbRulesSpec)

/-- ITS FALSE NEIGHBOUR: 'it returns false'. Refute it at one input. -/
def limbRulesWrong : ChangeSpec := { name := "limbRules", fn := fun _ => fun
  | [d1, d2, d3] => { results := [.lit (.bool false)], args := [d1, d2, d3] }
  | _ => none }
def LimbRulesWrongFalsely : Prop := limbRulesRow.holds Try.pinned (OpenSpec.ofChange limbRulesWrong)

/-- 'psephoslaw01.LimbDivides': WHATEVER THE INPUT: true; the input reads as it did. -/
def limbDividesSpec : ChangeSpec := { name := "limbDivides", fn := fun _ => fun
  | [d1, d2] => { results := [.lit (.bool true)], args := [d1, d2] }
  | _ => none }
def limbDividesRow : OpenClaim := { program := "ytapmhmkekkhhpaa", sum := "a458e5d91ef51bf0c4395cbbcf0059fa7a81db0971d7c32720efa52cc7eaeb4c", func := "psephos/psephoslaw01.LimbDivides", spec := "limbDivides", unfollowed := true, recurses := true, apart := false }
def LimbDividesSaid : Prop := limbDividesRow.holds Try.pinned (OpenSpec.ofChange limbDividesSpec)

/-- ITS FALSE NEIGHBOUR: 'it returns false'. Refute it at one input. -/
def limbDividesWrong : ChangeSpec := { name := "limbDivides", fn := fun _ => fun
  | [d1, d2] => { results := [.lit (.bool false)], args := [d1, d2] }
  | _ => none }
def LimbDividesWrongFalsely : Prop := limbDividesRow.holds Try.pinned (OpenSpec.ofChange limbDividesWrong)

/-- 'psephoslaw01.LimbGcds': WHATEVER THE INPUT: true; the input reads as it did. -/
def limbGcdsSpec : ChangeSpec := { name := "limbGcds", fn := fun _ => fun
  | [d1, d2] => { results := [.lit (.bool true)], args := [d1, d2] }
  | _ => none }
def limbGcdsRow : OpenClaim := { program := "ytapmhmkekkhhpaa", sum := "a458e5d91ef51bf0c4395cbbcf0059fa7a81db0971d7c32720efa52cc7eaeb4c", func := "psephos/psephoslaw01.LimbGcds", spec := "limbGcds", unfollowed := true, recurses := true, apart := false }
def LimbGcdsSaid : Prop := limbGcdsRow.holds Try.pinned (OpenSpec.ofChange limbGcdsSpec)

/-- ITS FALSE NEIGHBOUR: 'it returns false'. Refute it at one input. -/
def limbGcdsWrong : ChangeSpec := { name := "limbGcds", fn := fun _ => fun
  | [d1, d2] => { results := [.lit (.bool false)], args := [d1, d2] }
  | _ => none }
def LimbGcdsWrongFalsely : Prop := limbGcdsRow.holds Try.pinned (OpenSpec.ofChange limbGcdsWrong)

/-- 'psephoslaw01.LimbBack': WHATEVER THE INPUT: true; the input reads as it did. -/
def limbBackSpec : ChangeSpec := { name := "limbBack", fn := fun _ => fun
  | [d1, d2, d3] => { results := [.lit (.bool true)], args := [d1, d2, d3] }
  | _ => none }
def limbBackRow : OpenClaim := { program := "ytapmhmkekkhhpaa", sum := "a458e5d91ef51bf0c4395cbbcf0059fa7a81db0971d7c32720efa52cc7eaeb4c", func := "psephos/psephoslaw01.LimbBack", spec := "limbBack", unfollowed := true, recurses := true, apart := false }
def LimbBackSaid : Prop := limbBackRow.holds Try.pinned (OpenSpec.ofChange limbBackSpec)

/-- ITS FALSE NEIGHBOUR: 'it returns false'. Refute it at one input. -/
def limbBackWrong : ChangeSpec := { name := "limbBack", fn := fun _ => fun
  | [d1, d2, d3] => { results := [.lit (.bool false)], args := [d1, d2, d3] }
  | _ => none }
def LimbBackWrongFalsely : Prop := limbBackRow.holds Try.pinned (OpenSpec.ofChange limbBackWrong)

/-- 'psephoslaw06.MoneyParts': WHATEVER THE INPUT: true; the input reads as it did. -/
def moneyPartsSpec : ChangeSpec := { name := "moneyParts", fn := fun _ => fun
  | [d1, d2, d3] => { results := [.lit (.bool true)], args := [d1, d2, d3] }
  | _ => none }
def moneyPartsRow : OpenClaim := { program := "ytapmhmkekkhhpaa", sum := "a458e5d91ef51bf0c4395cbbcf0059fa7a81db0971d7c32720efa52cc7eaeb4c", func := "psephos/psephoslaw06.MoneyParts", spec := "moneyParts", unfollowed := true, recurses := true, apart := false }
def MoneyPartsSaid : Prop := moneyPartsRow.holds Try.pinned (OpenSpec.ofChange moneyPartsSpec)

/-- ITS FALSE NEIGHBOUR: 'it returns false'. Refute it at one input. -/
def moneyPartsWrong : ChangeSpec := { name := "moneyParts", fn := fun _ => fun
  | [d1, d2, d3] => { results := [.lit (.bool false)], args := [d1, d2, d3] }
  | _ => none }
def MoneyPartsWrongFalsely : Prop := moneyPartsRow.holds Try.pinned (OpenSpec.ofChange moneyPartsWrong)

/-- 'psephoslaw01.LimbKeeps': WHATEVER THE INPUT: true; the input reads as it did. -/
def limbKeepsSpec : ChangeSpec := { name := "limbKeeps", fn := fun _ => fun
  | [d1, d2] => { results := [.lit (.bool true)], args := [d1, d2] }
  | _ => none }
def limbKeepsRow : OpenClaim := { program := "ytapmhmkekkhhpaa", sum := "a458e5d91ef51bf0c4395cbbcf0059fa7a81db0971d7c32720efa52cc7eaeb4c", func := "psephos/psephoslaw01.LimbKeeps", spec := "limbKeeps", unfollowed := true, recurses := true, apart := false }
def LimbKeepsSaid : Prop := limbKeepsRow.holds Try.pinned (OpenSpec.ofChange limbKeepsSpec)

/-- ITS FALSE NEIGHBOUR: 'it returns false'. Refute it at one input. -/
def limbKeepsWrong : ChangeSpec := { name := "limbKeeps", fn := fun _ => fun
  | [d1, d2] => { results := [.lit (.bool false)], args := [d1, d2] }
  | _ => none }
def LimbKeepsWrongFalsely : Prop := limbKeepsRow.holds Try.pinned (OpenSpec.ofChange limbKeepsWrong)

/-- 'psephoslaw06.MoneySplits': WHATEVER THE INPUT: true; the input reads as it did. -/
def moneySplitsSpec : ChangeSpec := { name := "moneySplits", fn := fun _ => fun
  | [d1, d2] => { results := [.lit (.bool true)], args := [d1, d2] }
  | _ => none }
def moneySplitsRow : OpenClaim := { program := "ytapmhmkekkhhpaa", sum := "a458e5d91ef51bf0c4395cbbcf0059fa7a81db0971d7c32720efa52cc7eaeb4c", func := "psephos/psephoslaw06.MoneySplits", spec := "moneySplits", unfollowed := true, recurses := true, apart := false }
def MoneySplitsSaid : Prop := moneySplitsRow.holds Try.pinned (OpenSpec.ofChange moneySplitsSpec)

/-- ITS FALSE NEIGHBOUR: 'it returns false'. Refute it at one input. -/
def moneySplitsWrong : ChangeSpec := { name := "moneySplits", fn := fun _ => fun
  | [d1, d2] => { results := [.lit (.bool false)], args := [d1, d2] }
  | _ => none }
def MoneySplitsWrongFalsely : Prop := moneySplitsRow.holds Try.pinned (OpenSpec.ofChange moneySplitsWrong)

/- THE SECOND FORM. 'bulk': how many values and letters a reading holds, each counted each time it is reached (what is shared counts as often as it is met; a slice's spare places count too). A statement '..UptoSaid' is the law's where the arguments, and the package variables that the reading takes, are together of bulk at most 1048576: NARROWER than '..Said'. Prove '..Said' where nothing that the law and all that it calls make is longer than what came in: it says more and counts as full. Else prove '..UptoSaid'. A law counts once. -/
mutual
def uptoBulk {H : Type} : DataW H → Nat
  | .lit (.string bytes) => bytes.length + 1
  | .lit _ => 1
  | .nil => 1
  | .ptr d => uptoBulk d + 1
  | .slice elems spare => uptoBulkAll elems + uptoBulkAll spare + 1
  | .agg parts => uptoBulkAll parts + 1
  | .iface _ d => uptoBulk d + 1
  | .map entries => uptoBulkEntries entries + 1
  | .held _ => 1
def uptoBulkAll {H : Type} : List (DataW H) → Nat
  | [] => 0
  | d :: r => uptoBulk d + uptoBulkAll r
def uptoBulkEntries {H : Type} : List (Lit × DataW H) → Nat
  | [] => 0
  | x :: r => uptoBulkEntry x + uptoBulkEntries r
def uptoBulkEntry {H : Type} : Lit × DataW H → Nat
  | (.string bytes, d) => bytes.length + uptoBulk d + 1
  | (_, d) => uptoBulk d + 1
 end
def uptoSmall : (H : Type) → List (DataW H) → Bool := fun _ ds => decide (uptoBulkAll ds ≤ 1048576)
def OpenSpec.upto (s : _root_.Go.ChangeSpec) : _root_.Go.OpenSpec := { _root_.Go.OpenSpec.ofChange s with cond := some uptoSmall }

/-- 'psephoslaw06.MoneyAdds', WHERE WHAT IT READS IS OF BULK AT MOST 1048576: true; the input reads as it did. -/
def moneyAddsUptoRow : OpenClaim := { program := "ytapmhmkekkhhpaa", sum := "a458e5d91ef51bf0c4395cbbcf0059fa7a81db0971d7c32720efa52cc7eaeb4c", func := "psephos/psephoslaw06.MoneyAdds", spec := "moneyAdds", apart := false, narrowed := true }
def MoneyAddsUptoSaid : Prop := moneyAddsUptoRow.holds Try.pinned (OpenSpec.upto moneyAddsSpec)

/-- 'psephoslaw01.LimbForms', WHERE WHAT IT READS IS OF BULK AT MOST 1048576: true; the input reads as it did. -/
def limbFormsUptoRow : OpenClaim := { program := "ytapmhmkekkhhpaa", sum := "a458e5d91ef51bf0c4395cbbcf0059fa7a81db0971d7c32720efa52cc7eaeb4c", func := "psephos/psephoslaw01.LimbForms", spec := "limbForms", unfollowed := true, recurses := true, apart := false, narrowed := true }
def LimbFormsUptoSaid : Prop := limbFormsUptoRow.holds Try.pinned (OpenSpec.upto limbFormsSpec)

/-- 'psephoslaw01.LimbProducts', WHERE WHAT IT READS IS OF BULK AT MOST 1048576: true; the input reads as it did. -/
def limbProductsUptoRow : OpenClaim := { program := "ytapmhmkekkhhpaa", sum := "a458e5d91ef51bf0c4395cbbcf0059fa7a81db0971d7c32720efa52cc7eaeb4c", func := "psephos/psephoslaw01.LimbProducts", spec := "limbProducts", unfollowed := true, recurses := true, apart := false, narrowed := true }
def LimbProductsUptoSaid : Prop := limbProductsUptoRow.holds Try.pinned (OpenSpec.upto limbProductsSpec)

/-- 'psephoslaw01.LimbSums', WHERE WHAT IT READS IS OF BULK AT MOST 1048576: true; the input reads as it did. -/
def limbSumsUptoRow : OpenClaim := { program := "ytapmhmkekkhhpaa", sum := "a458e5d91ef51bf0c4395cbbcf0059fa7a81db0971d7c32720efa52cc7eaeb4c", func := "psephos/psephoslaw01.LimbSums", spec := "limbSums", unfollowed := true, recurses := true, apart := false, narrowed := true }
def LimbSumsUptoSaid : Prop := limbSumsUptoRow.holds Try.pinned (OpenSpec.upto limbSumsSpec)

/-- 'psephoslaw01.LimbRules', WHERE WHAT IT READS IS OF BULK AT MOST 1048576: true; the input reads as it did. -/
def limbRulesUptoRow : OpenClaim := { program := "ytapmhmkekkhhpaa", sum := "a458e5d91ef51bf0c4395cbbcf0059fa7a81db0971d7c32720efa52cc7eaeb4c", func := "psephos/psephoslaw01.LimbRules", spec := "limbRules", unfollowed := true, recurses := true, apart := false, narrowed := true }
def LimbRulesUptoSaid : Prop := limbRulesUptoRow.holds Try.pinned (OpenSpec.upto limbRulesSpec)

/-- 'psephoslaw01.LimbDivides', WHERE WHAT IT READS IS OF BULK AT MOST 1048576: true; the input reads as it did. -/
def limbDividesUptoRow : OpenClaim := { program := "ytapmhmkekkhhpaa", sum := "a458e5d91ef51bf0c4395cbbcf0059fa7a81db0971d7c32720efa52cc7eaeb4c", func := "psephos/psephoslaw01.LimbDivides", spec := "limbDivides", unfollowed := true, recurses := true, apart := false, narrowed := true }
def LimbDividesUptoSaid : Prop := limbDividesUptoRow.holds Try.pinned (OpenSpec.upto limbDividesSpec)

/-- 'psephoslaw01.LimbGcds', WHERE WHAT IT READS IS OF BULK AT MOST 1048576: true; the input reads as it did. -/
def limbGcdsUptoRow : OpenClaim := { program := "ytapmhmkekkhhpaa", sum := "a458e5d91ef51bf0c4395cbbcf0059fa7a81db0971d7c32720efa52cc7eaeb4c", func := "psephos/psephoslaw01.LimbGcds", spec := "limbGcds", unfollowed := true, recurses := true, apart := false, narrowed := true }
def LimbGcdsUptoSaid : Prop := limbGcdsUptoRow.holds Try.pinned (OpenSpec.upto limbGcdsSpec)

/-- 'psephoslaw01.LimbBack', WHERE WHAT IT READS IS OF BULK AT MOST 1048576: true; the input reads as it did. -/
def limbBackUptoRow : OpenClaim := { program := "ytapmhmkekkhhpaa", sum := "a458e5d91ef51bf0c4395cbbcf0059fa7a81db0971d7c32720efa52cc7eaeb4c", func := "psephos/psephoslaw01.LimbBack", spec := "limbBack", unfollowed := true, recurses := true, apart := false, narrowed := true }
def LimbBackUptoSaid : Prop := limbBackUptoRow.holds Try.pinned (OpenSpec.upto limbBackSpec)

/-- 'psephoslaw06.MoneyParts', WHERE WHAT IT READS IS OF BULK AT MOST 1048576: true; the input reads as it did. -/
def moneyPartsUptoRow : OpenClaim := { program := "ytapmhmkekkhhpaa", sum := "a458e5d91ef51bf0c4395cbbcf0059fa7a81db0971d7c32720efa52cc7eaeb4c", func := "psephos/psephoslaw06.MoneyParts", spec := "moneyParts", unfollowed := true, recurses := true, apart := false, narrowed := true }
def MoneyPartsUptoSaid : Prop := moneyPartsUptoRow.holds Try.pinned (OpenSpec.upto moneyPartsSpec)

/-- 'psephoslaw01.LimbKeeps', WHERE WHAT IT READS IS OF BULK AT MOST 1048576: true; the input reads as it did. -/
def limbKeepsUptoRow : OpenClaim := { program := "ytapmhmkekkhhpaa", sum := "a458e5d91ef51bf0c4395cbbcf0059fa7a81db0971d7c32720efa52cc7eaeb4c", func := "psephos/psephoslaw01.LimbKeeps", spec := "limbKeeps", unfollowed := true, recurses := true, apart := false, narrowed := true }
def LimbKeepsUptoSaid : Prop := limbKeepsUptoRow.holds Try.pinned (OpenSpec.upto limbKeepsSpec)

/-- 'psephoslaw06.MoneySplits', WHERE WHAT IT READS IS OF BULK AT MOST 1048576: true; the input reads as it did. -/
def moneySplitsUptoRow : OpenClaim := { program := "ytapmhmkekkhhpaa", sum := "a458e5d91ef51bf0c4395cbbcf0059fa7a81db0971d7c32720efa52cc7eaeb4c", func := "psephos/psephoslaw06.MoneySplits", spec := "moneySplits", unfollowed := true, recurses := true, apart := false, narrowed := true }
def MoneySplitsUptoSaid : Prop := moneySplitsUptoRow.holds Try.pinned (OpenSpec.upto moneySplitsSpec)

end Rows
end Go.Proofs.Ytapmhmkekkhhpaa
