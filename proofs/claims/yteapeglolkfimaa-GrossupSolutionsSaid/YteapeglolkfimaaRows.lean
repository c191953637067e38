/-
  No cell of these rows narrows 'for every input' (looked for: loops, veiled, ifaces, maps, wideKeys, modest, calm, conditions, laid).
  DERIVED. THE GIVEN ROWS OF THIS SEAT. 7 by the template 'for every input the law returns true; each argument reads behind the call as it read before'; 0 by the template 'total and deterministic' (their statements: YteapeglolkfimaaTotals.lean).
  GIVEN WITH THE SEED: the statements are not yours to turn. If you find one false, say at which input.
  Laid BY PROGRAM, IN A SANDBOX (cutbox-rows.mjs): the forced cells as the released guide's own fill.sh prints them over the translation edcf7fe4532ae34a… (all of the seat's roots in one cut). By AI agents, Wed Nov 11 2026. No macro, syntax, notation, axiom, sorry.
-/
import Derived.Test.YteapeglolkfimaaChecked
import GoSem.Claim
import GoSem.ClaimJoined
import GoSem.ClaimMapViews
import Derived.JoinedTies
import Derived.KernelRfl
namespace Go.Proofs.Yteapeglolkfimaa
/- THE CELL 'sum', in the pinned program and in every row, IS THE sha256 OF THE DUMP (.gsa) THAT YteapeglolkfimaaProg.lean LOADS. Nothing in Lean hashes anything: it is a label: what it is worth is what the hold of that sum in a sandbox is worth. -/
noncomputable def Try.pinned : Pinned := { name := "yteapeglolkfimaa", sum := "edcf7fe4532ae34a9c2bb40d280ade07c41f96783c1b308ba858ffea949670fe", checked := Try.checked }
namespace Rows
def none {H : Type} : Left H := { results := [], args := [] }

/-- 'wageofficelaw30.GrossupMatchesReference': WHATEVER THE INPUT: true; the input reads as it did. -/
def grossupMatchesReferenceSpec : ChangeSpec := { name := "grossupMatchesReference", fn := fun _ => fun
  | [d1, d2, d3] => { results := [.lit (.bool true)], args := [d1, d2, d3] }
  | _ => none }
def grossupMatchesReferenceRow : OpenClaim := { program := "yteapeglolkfimaa", sum := "edcf7fe4532ae34a9c2bb40d280ade07c41f96783c1b308ba858ffea949670fe", func := "wageoffice/wageofficelaw30.GrossupMatchesReference", spec := "grossupMatchesReference", unfollowed := true, recurses := true, apart := false }
def GrossupMatchesReferenceSaid : Prop := grossupMatchesReferenceRow.holds Try.pinned (OpenSpec.ofChange grossupMatchesReferenceSpec)

/-- ITS FALSE NEIGHBOUR: 'it returns false'. Refute it at one input. -/
def grossupMatchesReferenceWrong : ChangeSpec := { name := "grossupMatchesReference", fn := fun _ => fun
  | [d1, d2, d3] => { results := [.lit (.bool false)], args := [d1, d2, d3] }
  | _ => none }
def GrossupMatchesReferenceWrongFalsely : Prop := grossupMatchesReferenceRow.holds Try.pinned (OpenSpec.ofChange grossupMatchesReferenceWrong)

/-- 'wageofficelaw30.GrossupOneSpan': WHATEVER THE INPUT: true; the input reads as it did. -/
def grossupOneSpanSpec : ChangeSpec := { name := "grossupOneSpan", fn := fun _ => fun
  | [d1, d2] => { results := [.lit (.bool true)], args := [d1, d2] }
  | _ => none }
def grossupOneSpanRow : OpenClaim := { program := "yteapeglolkfimaa", sum := "edcf7fe4532ae34a9c2bb40d280ade07c41f96783c1b308ba858ffea949670fe", func := "wageoffice/wageofficelaw30.GrossupOneSpan", spec := "grossupOneSpan", unfollowed := true, recurses := true, apart := false }
def GrossupOneSpanSaid : Prop := grossupOneSpanRow.holds Try.pinned (OpenSpec.ofChange grossupOneSpanSpec)

/-- ITS FALSE NEIGHBOUR: 'it returns false'. Refute it at one input. -/
def grossupOneSpanWrong : ChangeSpec := { name := "grossupOneSpan", fn := fun _ => fun
  | [d1, d2] => { results := [.lit (.bool false)], args := [d1, d2] }
  | _ => none }
def GrossupOneSpanWrongFalsely : Prop := grossupOneSpanRow.holds Try.pinned (OpenSpec.ofChange grossupOneSpanWrong)

/-- 'wageofficelaw30.GrossupLeast': WHATEVER THE INPUT: true; the input reads as it did. -/
def grossupLeastSpec : ChangeSpec := { name := "grossupLeast", fn := fun _ => fun
  | [d1, d2, d3] => { results := [.lit (.bool true)], args := [d1, d2, d3] }
  | _ => none }
def grossupLeastRow : OpenClaim := { program := "yteapeglolkfimaa", sum := "edcf7fe4532ae34a9c2bb40d280ade07c41f96783c1b308ba858ffea949670fe", func := "wageoffice/wageofficelaw30.GrossupLeast", spec := "grossupLeast", unfollowed := true, recurses := true, apart := false }
def GrossupLeastSaid : Prop := grossupLeastRow.holds Try.pinned (OpenSpec.ofChange grossupLeastSpec)

/-- ITS FALSE NEIGHBOUR: 'it returns false'. Refute it at one input. -/
def grossupLeastWrong : ChangeSpec := { name := "grossupLeast", fn := fun _ => fun
  | [d1, d2, d3] => { results := [.lit (.bool false)], args := [d1, d2, d3] }
  | _ => none }
def GrossupLeastWrongFalsely : Prop := grossupLeastRow.holds Try.pinned (OpenSpec.ofChange grossupLeastWrong)

/-- 'wageofficelaw30.GrossupFixed': WHATEVER THE INPUT: true; the input reads as it did. -/
def grossupFixedSpec : ChangeSpec := { name := "grossupFixed", fn := fun _ => fun
  | [d1, d2] => { results := [.lit (.bool true)], args := [d1, d2] }
  | _ => none }
def grossupFixedRow : OpenClaim := { program := "yteapeglolkfimaa", sum := "edcf7fe4532ae34a9c2bb40d280ade07c41f96783c1b308ba858ffea949670fe", func := "wageoffice/wageofficelaw30.GrossupFixed", spec := "grossupFixed", unfollowed := true, recurses := true, apart := false }
def GrossupFixedSaid : Prop := grossupFixedRow.holds Try.pinned (OpenSpec.ofChange grossupFixedSpec)

/-- ITS FALSE NEIGHBOUR: 'it returns false'. Refute it at one input. -/
def grossupFixedWrong : ChangeSpec := { name := "grossupFixed", fn := fun _ => fun
  | [d1, d2] => { results := [.lit (.bool false)], args := [d1, d2] }
  | _ => none }
def GrossupFixedWrongFalsely : Prop := grossupFixedRow.holds Try.pinned (OpenSpec.ofChange grossupFixedWrong)

/-- 'wageofficelaw30.GrossupBack': WHATEVER THE INPUT: true; the input reads as it did. -/
def grossupBackSpec : ChangeSpec := { name := "grossupBack", fn := fun _ => fun
  | [d1, d2] => { results := [.lit (.bool true)], args := [d1, d2] }
  | _ => none }
def grossupBackRow : OpenClaim := { program := "yteapeglolkfimaa", sum := "edcf7fe4532ae34a9c2bb40d280ade07c41f96783c1b308ba858ffea949670fe", func := "wageoffice/wageofficelaw30.GrossupBack", spec := "grossupBack", unfollowed := true, recurses := true, apart := false }
def GrossupBackSaid : Prop := grossupBackRow.holds Try.pinned (OpenSpec.ofChange grossupBackSpec)

/-- ITS FALSE NEIGHBOUR: 'it returns false'. Refute it at one input. -/
def grossupBackWrong : ChangeSpec := { name := "grossupBack", fn := fun _ => fun
  | [d1, d2] => { results := [.lit (.bool false)], args := [d1, d2] }
  | _ => none }
def GrossupBackWrongFalsely : Prop := grossupBackRow.holds Try.pinned (OpenSpec.ofChange grossupBackWrong)

/-- 'wageofficelaw30.GrossupFullRate': WHATEVER THE INPUT: true; the input reads as it did. -/
def grossupFullRateSpec : ChangeSpec := { name := "grossupFullRate", fn := fun _ => fun
  | [d1, d2, d3, d4] => { results := [.lit (.bool true)], args := [d1, d2, d3, d4] }
  | _ => none }
def grossupFullRateRow : OpenClaim := { program := "yteapeglolkfimaa", sum := "edcf7fe4532ae34a9c2bb40d280ade07c41f96783c1b308ba858ffea949670fe", func := "wageoffice/wageofficelaw30.GrossupFullRate", spec := "grossupFullRate", unfollowed := true, recurses := true, apart := false }
def GrossupFullRateSaid : Prop := grossupFullRateRow.holds Try.pinned (OpenSpec.ofChange grossupFullRateSpec)

/-- ITS FALSE NEIGHBOUR: 'it returns false'. Refute it at one input. -/
def grossupFullRateWrong : ChangeSpec := { name := "grossupFullRate", fn := fun _ => fun
  | [d1, d2, d3, d4] => { results := [.lit (.bool false)], args := [d1, d2, d3, d4] }
  | _ => none }
def GrossupFullRateWrongFalsely : Prop := grossupFullRateRow.holds Try.pinned (OpenSpec.ofChange grossupFullRateWrong)

/-- 'wageofficelaw30.GrossupSolutions': WHATEVER THE INPUT: true; the input reads as it did. -/
def grossupSolutionsSpec : ChangeSpec := { name := "grossupSolutions", fn := fun _ => fun
  | [d1, d2, d3] => { results := [.lit (.bool true)], args := [d1, d2, d3] }
  | _ => none }
def grossupSolutionsRow : OpenClaim := { program := "yteapeglolkfimaa", sum := "edcf7fe4532ae34a9c2bb40d280ade07c41f96783c1b308ba858ffea949670fe", func := "wageoffice/wageofficelaw30.GrossupSolutions", spec := "grossupSolutions", unfollowed := true, recurses := true, apart := false }
def GrossupSolutionsSaid : Prop := grossupSolutionsRow.holds Try.pinned (OpenSpec.ofChange grossupSolutionsSpec)

/-- ITS FALSE NEIGHBOUR: 'it returns false'. Refute it at one input. -/
def grossupSolutionsWrong : ChangeSpec := { name := "grossupSolutions", fn := fun _ => fun
  | [d1, d2, d3] => { results := [.lit (.bool false)], args := [d1, d2, d3] }
  | _ => none }
def GrossupSolutionsWrongFalsely : Prop := grossupSolutionsRow.holds Try.pinned (OpenSpec.ofChange grossupSolutionsWrong)

/- THE SECOND FORM. 'bulk': how many values and letters a reading holds, each counted each time it is reached (what is shared counts as often as it is met; a slice's spare places count too). A statement '..UptoSaid' is the law's where the arguments, and the package variables that the reading takes, are together of bulk at most 1048576: NARROWER than '..Said'. Prove '..Said' where nothing that the law and all that it calls make is longer than what came in: it says more and counts as full. Else prove '..UptoSaid'. A law counts once. -/
mutual
def uptoBulk {H : Type} : DataW H → Nat
  | .lit (.string bytes) => bytes.length + 1
  | .lit _ => 1
  | .nil => 1
  | .ptr d => uptoBulk d + 1
  | .slice elems spare => uptoBulkAll elems + uptoBulkAll spare + 1
  | .agg parts => uptoBulkAll parts + 1
  | .iface _ d => uptoBulk d + 1
  | .map entries => uptoBulkEntries entries + 1
  | .held _ => 1
def uptoBulkAll {H : Type} : List (DataW H) → Nat
  | [] => 0
  | d :: r => uptoBulk d + uptoBulkAll r
def uptoBulkEntries {H : Type} : List (Lit × DataW H) → Nat
  | [] => 0
  | x :: r => uptoBulkEntry x + uptoBulkEntries r
def uptoBulkEntry {H : Type} : Lit × DataW H → Nat
  | (.string bytes, d) => bytes.length + uptoBulk d + 1
  | (_, d) => uptoBulk d + 1
 end
def uptoSmall : (H : Type) → List (DataW H) → Bool := fun _ ds => decide (uptoBulkAll ds ≤ 1048576)
def OpenSpec.upto (s : _root_.Go.ChangeSpec) : _root_.Go.OpenSpec := { _root_.Go.OpenSpec.ofChange s with cond := some uptoSmall }

/-- 'wageofficelaw30.GrossupMatchesReference', WHERE WHAT IT READS IS OF BULK AT MOST 1048576: true; the input reads as it did. -/
def grossupMatchesReferenceUptoRow : OpenClaim := { program := "yteapeglolkfimaa", sum := "edcf7fe4532ae34a9c2bb40d280ade07c41f96783c1b308ba858ffea949670fe", func := "wageoffice/wageofficelaw30.GrossupMatchesReference", spec := "grossupMatchesReference", unfollowed := true, recurses := true, apart := false, narrowed := true }
def GrossupMatchesReferenceUptoSaid : Prop := grossupMatchesReferenceUptoRow.holds Try.pinned (OpenSpec.upto grossupMatchesReferenceSpec)

/-- 'wageofficelaw30.GrossupOneSpan', WHERE WHAT IT READS IS OF BULK AT MOST 1048576: true; the input reads as it did. -/
def grossupOneSpanUptoRow : OpenClaim := { program := "yteapeglolkfimaa", sum := "edcf7fe4532ae34a9c2bb40d280ade07c41f96783c1b308ba858ffea949670fe", func := "wageoffice/wageofficelaw30.GrossupOneSpan", spec := "grossupOneSpan", unfollowed := true, recurses := true, apart := false, narrowed := true }
def GrossupOneSpanUptoSaid : Prop := grossupOneSpanUptoRow.holds Try.pinned (OpenSpec.upto grossupOneSpanSpec)

/-- 'wageofficelaw30.GrossupLeast', WHERE WHAT IT READS IS OF BULK AT MOST 1048576: true; the input reads as it did. -/
def grossupLeastUptoRow : OpenClaim := { program := "yteapeglolkfimaa", sum := "edcf7fe4532ae34a9c2bb40d280ade07c41f96783c1b308ba858ffea949670fe", func := "wageoffice/wageofficelaw30.GrossupLeast", spec := "grossupLeast", unfollowed := true, recurses := true, apart := false, narrowed := true }
def GrossupLeastUptoSaid : Prop := grossupLeastUptoRow.holds Try.pinned (OpenSpec.upto grossupLeastSpec)

/-- 'wageofficelaw30.GrossupFixed', WHERE WHAT IT READS IS OF BULK AT MOST 1048576: true; the input reads as it did. -/
def grossupFixedUptoRow : OpenClaim := { program := "yteapeglolkfimaa", sum := "edcf7fe4532ae34a9c2bb40d280ade07c41f96783c1b308ba858ffea949670fe", func := "wageoffice/wageofficelaw30.GrossupFixed", spec := "grossupFixed", unfollowed := true, recurses := true, apart := false, narrowed := true }
def GrossupFixedUptoSaid : Prop := grossupFixedUptoRow.holds Try.pinned (OpenSpec.upto grossupFixedSpec)

/-- 'wageofficelaw30.GrossupBack', WHERE WHAT IT READS IS OF BULK AT MOST 1048576: true; the input reads as it did. -/
def grossupBackUptoRow : OpenClaim := { program := "yteapeglolkfimaa", sum := "edcf7fe4532ae34a9c2bb40d280ade07c41f96783c1b308ba858ffea949670fe", func := "wageoffice/wageofficelaw30.GrossupBack", spec := "grossupBack", unfollowed := true, recurses := true, apart := false, narrowed := true }
def GrossupBackUptoSaid : Prop := grossupBackUptoRow.holds Try.pinned (OpenSpec.upto grossupBackSpec)

/-- 'wageofficelaw30.GrossupFullRate', WHERE WHAT IT READS IS OF BULK AT MOST 1048576: true; the input reads as it did. -/
def grossupFullRateUptoRow : OpenClaim := { program := "yteapeglolkfimaa", sum := "edcf7fe4532ae34a9c2bb40d280ade07c41f96783c1b308ba858ffea949670fe", func := "wageoffice/wageofficelaw30.GrossupFullRate", spec := "grossupFullRate", unfollowed := true, recurses := true, apart := false, narrowed := true }
def GrossupFullRateUptoSaid : Prop := grossupFullRateUptoRow.holds Try.pinned (OpenSpec.upto grossupFullRateSpec)

/-- 'wageofficelaw30.GrossupSolutions', WHERE WHAT IT READS IS OF BULK AT MOST 1048576: true; the input reads as it did. -/
def grossupSolutionsUptoRow : OpenClaim := { program := "yteapeglolkfimaa", sum := "edcf7fe4532ae34a9c2bb40d280ade07c41f96783c1b308ba858ffea949670fe", func := "wageoffice/wageofficelaw30.GrossupSolutions", spec := "grossupSolutions", unfollowed := true, recurses := true, apart := false, narrowed := true }
def GrossupSolutionsUptoSaid : Prop := grossupSolutionsUptoRow.holds Try.pinned (OpenSpec.upto grossupSolutionsSpec)

end Rows
end Go.Proofs.Yteapeglolkfimaa
