/-
  No cell of these rows narrows 'for every input' (looked for: loops, veiled, ifaces, maps, wideKeys, modest, calm, conditions, laid).
  DERIVED. THE GIVEN ROWS OF THIS SEAT. 9 by the template 'for every input the law returns true; each argument reads behind the call as it read before'; 0 by the template 'total and deterministic' (their statements: YtbfcmjaomkdpgaaTotals.lean).
  GIVEN WITH THE SEED: the statements are not yours to turn. If you find one false, say at which input.
  Laid BY PROGRAM, IN A SANDBOX (cutbox-rows.mjs): the forced cells as the released guide's own fill.sh prints them over the translation e754dcf7d7acf28e… (all of the seat's roots in one cut). By AI agents, Wed Nov 11 2026. No macro, syntax, notation, axiom, sorry.
-/
import Derived.Test.YtbfcmjaomkdpgaaChecked
import GoSem.Claim
import GoSem.ClaimJoined
import GoSem.ClaimMapViews
import Derived.JoinedTies
import Derived.KernelRfl
namespace Go.Proofs.Ytbfcmjaomkdpgaa
/- THE CELL 'sum', in the pinned program and in every row, IS THE sha256 OF THE DUMP (.gsa) THAT YtbfcmjaomkdpgaaProg.lean LOADS. Nothing in Lean hashes anything: it is a label: what it is worth is what the hold of that sum in a sandbox is worth. -/
noncomputable def Try.pinned : Pinned := { name := "ytbfcmjaomkdpgaa", sum := "e754dcf7d7acf28e595136cf39df45fc06694d52142be5549b4dd260576965ee", checked := Try.checked }
namespace Rows
def none {H : Type} : Left H := { results := [], args := [] }

/-- 'psephoslaw10.GraphSupported': WHATEVER THE INPUT: true; the input reads as it did. -/
def graphSupportedSpec : ChangeSpec := { name := "graphSupported", fn := fun _ => fun
  | [d] => { results := [.lit (.bool true)], args := [d] }
  | _ => none }
def graphSupportedRow : OpenClaim := { program := "ytbfcmjaomkdpgaa", sum := "e754dcf7d7acf28e595136cf39df45fc06694d52142be5549b4dd260576965ee", func := "psephos/psephoslaw10.GraphSupported", spec := "graphSupported", unfollowed := true, recurses := true, apart := false }
def GraphSupportedSaid : Prop := graphSupportedRow.holds Try.pinned (OpenSpec.ofChange graphSupportedSpec)

/-- ITS FALSE NEIGHBOUR: 'it returns false'. Refute it at one input. -/
def graphSupportedWrong : ChangeSpec := { name := "graphSupported", fn := fun _ => fun
  | [d] => { results := [.lit (.bool false)], args := [d] }
  | _ => none }
def GraphSupportedWrongFalsely : Prop := graphSupportedRow.holds Try.pinned (OpenSpec.ofChange graphSupportedWrong)

/-- 'psephoslaw02.RatioForms': WHATEVER THE INPUT: true; the input reads as it did. -/
def ratioFormsSpec : ChangeSpec := { name := "ratioForms", fn := fun _ => fun
  | [d1, d2, d3] => { results := [.lit (.bool true)], args := [d1, d2, d3] }
  | _ => none }
def ratioFormsRow : OpenClaim := { program := "ytbfcmjaomkdpgaa", sum := "e754dcf7d7acf28e595136cf39df45fc06694d52142be5549b4dd260576965ee", func := "psephos/psephoslaw02.RatioForms", spec := "ratioForms", unfollowed := true, recurses := true, apart := false }
def RatioFormsSaid : Prop := ratioFormsRow.holds Try.pinned (OpenSpec.ofChange ratioFormsSpec)

/-- ITS FALSE NEIGHBOUR: 'it returns false'. Refute it at one input. -/
def ratioFormsWrong : ChangeSpec := { name := "ratioForms", fn := fun _ => fun
  | [d1, d2, d3] => { results := [.lit (.bool false)], args := [d1, d2, d3] }
  | _ => none }
def RatioFormsWrongFalsely : Prop := ratioFormsRow.holds Try.pinned (OpenSpec.ofChange ratioFormsWrong)

/-- 'psephoslaw02.RatioProducts': WHATEVER THE INPUT: true; the input reads as it did. -/
def ratioProductsSpec : ChangeSpec := { name := "ratioProducts", fn := fun _ => fun
  | [d1, d2] => { results := [.lit (.bool true)], args := [d1, d2] }
  | _ => none }
def ratioProductsRow : OpenClaim := { program := "ytbfcmjaomkdpgaa", sum := "e754dcf7d7acf28e595136cf39df45fc06694d52142be5549b4dd260576965ee", func := "psephos/psephoslaw02.RatioProducts", spec := "ratioProducts", unfollowed := true, recurses := true, apart := false }
def RatioProductsSaid : Prop := ratioProductsRow.holds Try.pinned (OpenSpec.ofChange ratioProductsSpec)

/-- ITS FALSE NEIGHBOUR: 'it returns false'. Refute it at one input. -/
def ratioProductsWrong : ChangeSpec := { name := "ratioProducts", fn := fun _ => fun
  | [d1, d2] => { results := [.lit (.bool false)], args := [d1, d2] }
  | _ => none }
def RatioProductsWrongFalsely : Prop := ratioProductsRow.holds Try.pinned (OpenSpec.ofChange ratioProductsWrong)

/-- 'psephoslaw02.RatioLong': WHATEVER THE INPUT: true; the input reads as it did. -/
def ratioLongSpec : ChangeSpec := { name := "ratioLong", fn := fun _ => fun
  | [d1, d2] => { results := [.lit (.bool true)], args := [d1, d2] }
  | _ => none }
def ratioLongRow : OpenClaim := { program := "ytbfcmjaomkdpgaa", sum := "e754dcf7d7acf28e595136cf39df45fc06694d52142be5549b4dd260576965ee", func := "psephos/psephoslaw02.RatioLong", spec := "ratioLong", unfollowed := true, recurses := true, apart := false }
def RatioLongSaid : Prop := ratioLongRow.holds Try.pinned (OpenSpec.ofChange ratioLongSpec)

/-- ITS FALSE NEIGHBOUR: 'it returns false'. Refute it at one input. -/
def ratioLongWrong : ChangeSpec := { name := "ratioLong", fn := fun _ => fun
  | [d1, d2] => { results := [.lit (.bool false)], args := [d1, d2] }
  | _ => none }
def RatioLongWrongFalsely : Prop := ratioLongRow.holds Try.pinned (OpenSpec.ofChange ratioLongWrong)

/-- 'psephoslaw02.RatioSums': WHATEVER THE INPUT: true; the input reads as it did. -/
def ratioSumsSpec : ChangeSpec := { name := "ratioSums", fn := fun _ => fun
  | [d1, d2] => { results := [.lit (.bool true)], args := [d1, d2] }
  | _ => none }
def ratioSumsRow : OpenClaim := { program := "ytbfcmjaomkdpgaa", sum := "e754dcf7d7acf28e595136cf39df45fc06694d52142be5549b4dd260576965ee", func := "psephos/psephoslaw02.RatioSums", spec := "ratioSums", unfollowed := true, recurses := true, apart := false }
def RatioSumsSaid : Prop := ratioSumsRow.holds Try.pinned (OpenSpec.ofChange ratioSumsSpec)

/-- ITS FALSE NEIGHBOUR: 'it returns false'. Refute it at one input. -/
def ratioSumsWrong : ChangeSpec := { name := "ratioSums", fn := fun _ => fun
  | [d1, d2] => { results := [.lit (.bool false)], args := [d1, d2] }
  | _ => none }
def RatioSumsWrongFalsely : Prop := ratioSumsRow.holds Try.pinned (OpenSpec.ofChange ratioSumsWrong)

/-- 'psephoslaw02.RatioRules': WHATEVER THE INPUT: true; the input reads as it did. -/
def ratioRulesSpec : ChangeSpec := { name := "ratioRules", fn := fun _ => fun
  | [d1, d2, d3] => { results := [.lit (.bool true)], args := [d1, d2, d3] }
  | _ => none }
def ratioRulesRow : OpenClaim := { program := "ytbfcmjaomkdpgaa", sum := "e754dcf7d7acf28e595136cf39df45fc06694d52142be5549b4dd260576965ee", func := "psephos/psephoslaw02.RatioRules", spec := "ratioRules", unfollowed := true, recurses := true, apart := false }
def RatioRulesSaid : Prop := ratioRulesRow.holds Try.pinned (OpenSpec.ofChange ratioRulesSpec)

/-- ITS FALSE NEIGHBOUR: 'it returns false'. Refute it at one input. -/
def ratioRulesWrong : ChangeSpec := { name := "ratioRules", fn := fun _ => fun
  | [d1, d2, d3] => { results := [.lit (.bool false)], args := [d1, d2, d3] }
  | _ => none }
def RatioRulesWrongFalsely : Prop := ratioRulesRow.holds Try.pinned (OpenSpec.ofChange ratioRulesWrong)

/-- 'psephoslaw19.PagesWhole': WHATEVER THE INPUT: true; the input reads as it did. -/
def pagesWholeSpec : ChangeSpec := { name := "pagesWhole", fn := fun _ => fun
  | [d1, d2] => { results := [.lit (.bool true)], args := [d1, d2] }
  | _ => none }
def pagesWholeRow : OpenClaim := { program := "ytbfcmjaomkdpgaa", sum := "e754dcf7d7acf28e595136cf39df45fc06694d52142be5549b4dd260576965ee", func := "psephos/psephoslaw19.PagesWhole", spec := "pagesWhole", unfollowed := true, recurses := true, apart := false }
def PagesWholeSaid : Prop := pagesWholeRow.holds Try.pinned (OpenSpec.ofChange pagesWholeSpec)

/-- ITS FALSE NEIGHBOUR: 'it returns false'. Refute it at one input. -/
def pagesWholeWrong : ChangeSpec := { name := "pagesWhole", fn := fun _ => fun
  | [d1, d2] => { results := [.lit (.bool false)], args := [d1, d2] }
  | _ => none }
def PagesWholeWrongFalsely : Prop := pagesWholeRow.holds Try.pinned (OpenSpec.ofChange pagesWholeWrong)

/-- 'psephoslaw19.PagesSum': WHATEVER THE INPUT: true; the input reads as it did. -/
def pagesSumSpec : ChangeSpec := { name := "pagesSum", fn := fun _ => fun
  | [d1, d2, d3] => { results := [.lit (.bool true)], args := [d1, d2, d3] }
  | _ => none }
def pagesSumRow : OpenClaim := { program := "ytbfcmjaomkdpgaa", sum := "e754dcf7d7acf28e595136cf39df45fc06694d52142be5549b4dd260576965ee", func := "psephos/psephoslaw19.PagesSum", spec := "pagesSum", unfollowed := true, recurses := true, apart := false }
def PagesSumSaid : Prop := pagesSumRow.holds Try.pinned (OpenSpec.ofChange pagesSumSpec)

/-- ITS FALSE NEIGHBOUR: 'it returns false'. Refute it at one input. -/
def pagesSumWrong : ChangeSpec := { name := "pagesSum", fn := fun _ => fun
  | [d1, d2, d3] => { results := [.lit (.bool false)], args := [d1, d2, d3] }
  | _ => none }
def PagesSumWrongFalsely : Prop := pagesSumRow.holds Try.pinned (OpenSpec.ofChange pagesSumWrong)

/-- 'psephoslaw19.PagesCut': WHATEVER THE INPUT: true; the input reads as it did. -/
def pagesCutSpec : ChangeSpec := { name := "pagesCut", fn := fun _ => fun
  | [d1, d2, d3] => { results := [.lit (.bool true)], args := [d1, d2, d3] }
  | _ => none }
def pagesCutRow : OpenClaim := { program := "ytbfcmjaomkdpgaa", sum := "e754dcf7d7acf28e595136cf39df45fc06694d52142be5549b4dd260576965ee", func := "psephos/psephoslaw19.PagesCut", spec := "pagesCut", unfollowed := true, recurses := true, apart := false }
def PagesCutSaid : Prop := pagesCutRow.holds Try.pinned (OpenSpec.ofChange pagesCutSpec)

/-- ITS FALSE NEIGHBOUR: 'it returns false'. Refute it at one input. -/
def pagesCutWrong : ChangeSpec := { name := "pagesCut", fn := fun _ => fun
  | [d1, d2, d3] => { results := [.lit (.bool false)], args := [d1, d2, d3] }
  | _ => none }
def PagesCutWrongFalsely : Prop := pagesCutRow.holds Try.pinned (OpenSpec.ofChange pagesCutWrong)

/- THE SECOND FORM. 'bulk': how many values and letters a reading holds, each counted each time it is reached (what is shared counts as often as it is met; a slice's spare places count too). A statement '..UptoSaid' is the law's where the arguments, and the package variables that the reading takes, are together of bulk at most 1048576: NARROWER than '..Said'. Prove '..Said' where nothing that the law and all that it calls make is longer than what came in: it says more and counts as full. Else prove '..UptoSaid'. A law counts once. -/
mutual
def uptoBulk {H : Type} : DataW H → Nat
  | .lit (.string bytes) => bytes.length + 1
  | .lit _ => 1
  | .nil => 1
  | .ptr d => uptoBulk d + 1
  | .slice elems spare => uptoBulkAll elems + uptoBulkAll spare + 1
  | .agg parts => uptoBulkAll parts + 1
  | .iface _ d => uptoBulk d + 1
  | .map entries => uptoBulkEntries entries + 1
  | .held _ => 1
def uptoBulkAll {H : Type} : List (DataW H) → Nat
  | [] => 0
  | d :: r => uptoBulk d + uptoBulkAll r
def uptoBulkEntries {H : Type} : List (Lit × DataW H) → Nat
  | [] => 0
  | x :: r => uptoBulkEntry x + uptoBulkEntries r
def uptoBulkEntry {H : Type} : Lit × DataW H → Nat
  | (.string bytes, d) => bytes.length + uptoBulk d + 1
  | (_, d) => uptoBulk d + 1
 end
def uptoSmall : (H : Type) → List (DataW H) → Bool := fun _ ds => decide (uptoBulkAll ds ≤ 1048576)
def OpenSpec.upto (s : _root_.Go.ChangeSpec) : _root_.Go.OpenSpec := { _root_.Go.OpenSpec.ofChange s with cond := some uptoSmall }

/-- 'psephoslaw10.GraphSupported', WHERE WHAT IT READS IS OF BULK AT MOST 1048576: true; the input reads as it did. -/
def graphSupportedUptoRow : OpenClaim := { program := "ytbfcmjaomkdpgaa", sum := "e754dcf7d7acf28e595136cf39df45fc06694d52142be5549b4dd260576965ee", func := "psephos/psephoslaw10.GraphSupported", spec := "graphSupported", unfollowed := true, recurses := true, apart := false, narrowed := true }
def GraphSupportedUptoSaid : Prop := graphSupportedUptoRow.holds Try.pinned (OpenSpec.upto graphSupportedSpec)

/-- 'psephoslaw02.RatioForms', WHERE WHAT IT READS IS OF BULK AT MOST 1048576: true; the input reads as it did. -/
def ratioFormsUptoRow : OpenClaim := { program := "ytbfcmjaomkdpgaa", sum := "e754dcf7d7acf28e595136cf39df45fc06694d52142be5549b4dd260576965ee", func := "psephos/psephoslaw02.RatioForms", spec := "ratioForms", unfollowed := true, recurses := true, apart := false, narrowed := true }
def RatioFormsUptoSaid : Prop := ratioFormsUptoRow.holds Try.pinned (OpenSpec.upto ratioFormsSpec)

/-- 'psephoslaw02.RatioProducts', WHERE WHAT IT READS IS OF BULK AT MOST 1048576: true; the input reads as it did. -/
def ratioProductsUptoRow : OpenClaim := { program := "ytbfcmjaomkdpgaa", sum := "e754dcf7d7acf28e595136cf39df45fc06694d52142be5549b4dd260576965ee", func := "psephos/psephoslaw02.RatioProducts", spec := "ratioProducts", unfollowed := true, recurses := true, apart := false, narrowed := true }
def RatioProductsUptoSaid : Prop := ratioProductsUptoRow.holds Try.pinned (OpenSpec.upto ratioProductsSpec)

/-- 'psephoslaw02.RatioLong', WHERE WHAT IT READS IS OF BULK AT MOST 1048576: true; the input reads as it did. -/
def ratioLongUptoRow : OpenClaim := { program := "ytbfcmjaomkdpgaa", sum := "e754dcf7d7acf28e595136cf39df45fc06694d52142be5549b4dd260576965ee", func := "psephos/psephoslaw02.RatioLong", spec := "ratioLong", unfollowed := true, recurses := true, apart := false, narrowed := true }
def RatioLongUptoSaid : Prop := ratioLongUptoRow.holds Try.pinned (OpenSpec.upto ratioLongSpec)

/-- 'psephoslaw02.RatioSums', WHERE WHAT IT READS IS OF BULK AT MOST 1048576: true; the input reads as it did. -/
def ratioSumsUptoRow : OpenClaim := { program := "ytbfcmjaomkdpgaa", sum := "e754dcf7d7acf28e595136cf39df45fc06694d52142be5549b4dd260576965ee", func := "psephos/psephoslaw02.RatioSums", spec := "ratioSums", unfollowed := true, recurses := true, apart := false, narrowed := true }
def RatioSumsUptoSaid : Prop := ratioSumsUptoRow.holds Try.pinned (OpenSpec.upto ratioSumsSpec)

/-- 'psephoslaw02.RatioRules', WHERE WHAT IT READS IS OF BULK AT MOST 1048576: true; the input reads as it did. -/
def ratioRulesUptoRow : OpenClaim := { program := "ytbfcmjaomkdpgaa", sum := "e754dcf7d7acf28e595136cf39df45fc06694d52142be5549b4dd260576965ee", func := "psephos/psephoslaw02.RatioRules", spec := "ratioRules", unfollowed := true, recurses := true, apart := false, narrowed := true }
def RatioRulesUptoSaid : Prop := ratioRulesUptoRow.holds Try.pinned (OpenSpec.upto ratioRulesSpec)

/-- 'psephoslaw19.PagesWhole', WHERE WHAT IT READS IS OF BULK AT MOST 1048576: true; the input reads as it did. -/
def pagesWholeUptoRow : OpenClaim := { program := "ytbfcmjaomkdpgaa", sum := "e754dcf7d7acf28e595136cf39df45fc06694d52142be5549b4dd260576965ee", func := "psephos/psephoslaw19.PagesWhole", spec := "pagesWhole", unfollowed := true, recurses := true, apart := false, narrowed := true }
def PagesWholeUptoSaid : Prop := pagesWholeUptoRow.holds Try.pinned (OpenSpec.upto pagesWholeSpec)

/-- 'psephoslaw19.PagesSum', WHERE WHAT IT READS IS OF BULK AT MOST 1048576: true; the input reads as it did. -/
def pagesSumUptoRow : OpenClaim := { program := "ytbfcmjaomkdpgaa", sum := "e754dcf7d7acf28e595136cf39df45fc06694d52142be5549b4dd260576965ee", func := "psephos/psephoslaw19.PagesSum", spec := "pagesSum", unfollowed := true, recurses := true, apart := false, narrowed := true }
def PagesSumUptoSaid : Prop := pagesSumUptoRow.holds Try.pinned (OpenSpec.upto pagesSumSpec)

/-- 'psephoslaw19.PagesCut', WHERE WHAT IT READS IS OF BULK AT MOST 1048576: true; the input reads as it did. -/
def pagesCutUptoRow : OpenClaim := { program := "ytbfcmjaomkdpgaa", sum := "e754dcf7d7acf28e595136cf39df45fc06694d52142be5549b4dd260576965ee", func := "psephos/psephoslaw19.PagesCut", spec := "pagesCut", unfollowed := true, recurses := true, apart := false, narrowed := true }
def PagesCutUptoSaid : Prop := pagesCutUptoRow.holds Try.pinned (OpenSpec.upto pagesCutSpec)

end Rows
end Go.Proofs.Ytbfcmjaomkdpgaa
