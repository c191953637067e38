/-
  No cell of these rows narrows 'for every input' (looked for: loops, veiled, ifaces, maps, wideKeys, modest, calm, conditions, laid).
  DERIVED. THE GIVEN ROWS OF THIS SEAT. 15 by the template 'for every input the law returns true; each argument reads behind the call as it read before'; 0 by the template 'total and deterministic' (their statements: YtbmochegfdljfaaTotals.lean).
  GIVEN WITH THE SEED: the statements are not yours to turn. If you find one false, say at which input.
  Laid BY PROGRAM, IN A SANDBOX (cutbox-rows.mjs): the forced cells as the released guide's own fill.sh prints them over the translation 021d5d5dfb532c3f… (all of the seat's roots in one cut). By AI agents, Wed Nov 11 2026. No macro, syntax, notation, axiom, sorry.
-/
import Derived.Test.YtbmochegfdljfaaChecked
import GoSem.Claim
import GoSem.ClaimJoined
import GoSem.ClaimMapViews
import Derived.JoinedTies
import Derived.KernelRfl
namespace Go.Proofs.Ytbmochegfdljfaa
/- THE CELL 'sum', in the pinned program and in every row, IS THE sha256 OF THE DUMP (.gsa) THAT YtbmochegfdljfaaProg.lean LOADS. Nothing in Lean hashes anything: it is a label: what it is worth is what the hold of that sum in a sandbox is worth. -/
noncomputable def Try.pinned : Pinned := { name := "ytbmochegfdljfaa", sum := "021d5d5dfb532c3fe44fa2aad2d9a64c490fd15d3cec8d6246edc8b7be3f2bf7", checked := Try.checked }
namespace Rows
def none {H : Type} : Left H := { results := [], args := [] }

/-- 'wageofficelaw39.LedgerMatchesReference': WHATEVER THE INPUT: true; the input reads as it did. -/
def ledgerMatchesReferenceSpec : ChangeSpec := { name := "ledgerMatchesReference", fn := fun _ => fun
  | [d1, d2, d3, d4, d5] => { results := [.lit (.bool true)], args := [d1, d2, d3, d4, d5] }
  | _ => none }
def ledgerMatchesReferenceRow : OpenClaim := { program := "ytbmochegfdljfaa", sum := "021d5d5dfb532c3fe44fa2aad2d9a64c490fd15d3cec8d6246edc8b7be3f2bf7", func := "wageoffice/wageofficelaw39.LedgerMatchesReference", spec := "ledgerMatchesReference", unfollowed := true, recurses := true, apart := false }
def LedgerMatchesReferenceSaid : Prop := ledgerMatchesReferenceRow.holds Try.pinned (OpenSpec.ofChange ledgerMatchesReferenceSpec)

/-- ITS FALSE NEIGHBOUR: 'it returns false'. Refute it at one input. -/
def ledgerMatchesReferenceWrong : ChangeSpec := { name := "ledgerMatchesReference", fn := fun _ => fun
  | [d1, d2, d3, d4, d5] => { results := [.lit (.bool false)], args := [d1, d2, d3, d4, d5] }
  | _ => none }
def LedgerMatchesReferenceWrongFalsely : Prop := ledgerMatchesReferenceRow.holds Try.pinned (OpenSpec.ofChange ledgerMatchesReferenceWrong)

/-- 'wageofficelaw39.LedgerZero': WHATEVER THE INPUT: true; the input reads as it did. -/
def ledgerZeroSpec : ChangeSpec := { name := "ledgerZero", fn := fun _ => fun
  | [d1, d2, d3, d4] => { results := [.lit (.bool true)], args := [d1, d2, d3, d4] }
  | _ => none }
def ledgerZeroRow : OpenClaim := { program := "ytbmochegfdljfaa", sum := "021d5d5dfb532c3fe44fa2aad2d9a64c490fd15d3cec8d6246edc8b7be3f2bf7", func := "wageoffice/wageofficelaw39.LedgerZero", spec := "ledgerZero", unfollowed := true, recurses := true, apart := false }
def LedgerZeroSaid : Prop := ledgerZeroRow.holds Try.pinned (OpenSpec.ofChange ledgerZeroSpec)

/-- ITS FALSE NEIGHBOUR: 'it returns false'. Refute it at one input. -/
def ledgerZeroWrong : ChangeSpec := { name := "ledgerZero", fn := fun _ => fun
  | [d1, d2, d3, d4] => { results := [.lit (.bool false)], args := [d1, d2, d3, d4] }
  | _ => none }
def LedgerZeroWrongFalsely : Prop := ledgerZeroRow.holds Try.pinned (OpenSpec.ofChange ledgerZeroWrong)

/-- 'wageofficelaw39.LedgerPosting': WHATEVER THE INPUT: true; the input reads as it did. -/
def ledgerPostingSpec : ChangeSpec := { name := "ledgerPosting", fn := fun _ => fun
  | [d1, d2, d3, d4, d5] => { results := [.lit (.bool true)], args := [d1, d2, d3, d4, d5] }
  | _ => none }
def ledgerPostingRow : OpenClaim := { program := "ytbmochegfdljfaa", sum := "021d5d5dfb532c3fe44fa2aad2d9a64c490fd15d3cec8d6246edc8b7be3f2bf7", func := "wageoffice/wageofficelaw39.LedgerPosting", spec := "ledgerPosting", unfollowed := true, recurses := true, apart := false }
def LedgerPostingSaid : Prop := ledgerPostingRow.holds Try.pinned (OpenSpec.ofChange ledgerPostingSpec)

/-- ITS FALSE NEIGHBOUR: 'it returns false'. Refute it at one input. -/
def ledgerPostingWrong : ChangeSpec := { name := "ledgerPosting", fn := fun _ => fun
  | [d1, d2, d3, d4, d5] => { results := [.lit (.bool false)], args := [d1, d2, d3, d4, d5] }
  | _ => none }
def LedgerPostingWrongFalsely : Prop := ledgerPostingRow.holds Try.pinned (OpenSpec.ofChange ledgerPostingWrong)

/-- 'wageofficelaw39.LedgerOnce': WHATEVER THE INPUT: true; the input reads as it did. -/
def ledgerOnceSpec : ChangeSpec := { name := "ledgerOnce", fn := fun _ => fun
  | [d1, d2, d3, d4] => { results := [.lit (.bool true)], args := [d1, d2, d3, d4] }
  | _ => none }
def ledgerOnceRow : OpenClaim := { program := "ytbmochegfdljfaa", sum := "021d5d5dfb532c3fe44fa2aad2d9a64c490fd15d3cec8d6246edc8b7be3f2bf7", func := "wageoffice/wageofficelaw39.LedgerOnce", spec := "ledgerOnce", unfollowed := true, recurses := true, apart := false }
def LedgerOnceSaid : Prop := ledgerOnceRow.holds Try.pinned (OpenSpec.ofChange ledgerOnceSpec)

/-- ITS FALSE NEIGHBOUR: 'it returns false'. Refute it at one input. -/
def ledgerOnceWrong : ChangeSpec := { name := "ledgerOnce", fn := fun _ => fun
  | [d1, d2, d3, d4] => { results := [.lit (.bool false)], args := [d1, d2, d3, d4] }
  | _ => none }
def LedgerOnceWrongFalsely : Prop := ledgerOnceRow.holds Try.pinned (OpenSpec.ofChange ledgerOnceWrong)

/-- 'wageofficelaw39.LedgerPast': WHATEVER THE INPUT: true; the input reads as it did. -/
def ledgerPastSpec : ChangeSpec := { name := "ledgerPast", fn := fun _ => fun
  | [d1, d2, d3, d4, d5] => { results := [.lit (.bool true)], args := [d1, d2, d3, d4, d5] }
  | _ => none }
def ledgerPastRow : OpenClaim := { program := "ytbmochegfdljfaa", sum := "021d5d5dfb532c3fe44fa2aad2d9a64c490fd15d3cec8d6246edc8b7be3f2bf7", func := "wageoffice/wageofficelaw39.LedgerPast", spec := "ledgerPast", unfollowed := true, recurses := true, apart := false }
def LedgerPastSaid : Prop := ledgerPastRow.holds Try.pinned (OpenSpec.ofChange ledgerPastSpec)

/-- ITS FALSE NEIGHBOUR: 'it returns false'. Refute it at one input. -/
def ledgerPastWrong : ChangeSpec := { name := "ledgerPast", fn := fun _ => fun
  | [d1, d2, d3, d4, d5] => { results := [.lit (.bool false)], args := [d1, d2, d3, d4, d5] }
  | _ => none }
def LedgerPastWrongFalsely : Prop := ledgerPastRow.holds Try.pinned (OpenSpec.ofChange ledgerPastWrong)

/-- 'wageofficelaw39.LedgerOrder': WHATEVER THE INPUT: true; the input reads as it did. -/
def ledgerOrderSpec : ChangeSpec := { name := "ledgerOrder", fn := fun _ => fun
  | [d1, d2, d3, d4, d5, d6] => { results := [.lit (.bool true)], args := [d1, d2, d3, d4, d5, d6] }
  | _ => none }
def ledgerOrderRow : OpenClaim := { program := "ytbmochegfdljfaa", sum := "021d5d5dfb532c3fe44fa2aad2d9a64c490fd15d3cec8d6246edc8b7be3f2bf7", func := "wageoffice/wageofficelaw39.LedgerOrder", spec := "ledgerOrder", unfollowed := true, recurses := true, apart := false }
def LedgerOrderSaid : Prop := ledgerOrderRow.holds Try.pinned (OpenSpec.ofChange ledgerOrderSpec)

/-- ITS FALSE NEIGHBOUR: 'it returns false'. Refute it at one input. -/
def ledgerOrderWrong : ChangeSpec := { name := "ledgerOrder", fn := fun _ => fun
  | [d1, d2, d3, d4, d5, d6] => { results := [.lit (.bool false)], args := [d1, d2, d3, d4, d5, d6] }
  | _ => none }
def LedgerOrderWrongFalsely : Prop := ledgerOrderRow.holds Try.pinned (OpenSpec.ofChange ledgerOrderWrong)

/-- 'wageofficelaw39.LedgerDifferences': WHATEVER THE INPUT: true; the input reads as it did. -/
def ledgerDifferencesSpec : ChangeSpec := { name := "ledgerDifferences", fn := fun _ => fun
  | [d1, d2, d3, d4, d5] => { results := [.lit (.bool true)], args := [d1, d2, d3, d4, d5] }
  | _ => none }
def ledgerDifferencesRow : OpenClaim := { program := "ytbmochegfdljfaa", sum := "021d5d5dfb532c3fe44fa2aad2d9a64c490fd15d3cec8d6246edc8b7be3f2bf7", func := "wageoffice/wageofficelaw39.LedgerDifferences", spec := "ledgerDifferences", unfollowed := true, recurses := true, apart := false }
def LedgerDifferencesSaid : Prop := ledgerDifferencesRow.holds Try.pinned (OpenSpec.ofChange ledgerDifferencesSpec)

/-- ITS FALSE NEIGHBOUR: 'it returns false'. Refute it at one input. -/
def ledgerDifferencesWrong : ChangeSpec := { name := "ledgerDifferences", fn := fun _ => fun
  | [d1, d2, d3, d4, d5] => { results := [.lit (.bool false)], args := [d1, d2, d3, d4, d5] }
  | _ => none }
def LedgerDifferencesWrongFalsely : Prop := ledgerDifferencesRow.holds Try.pinned (OpenSpec.ofChange ledgerDifferencesWrong)

/-- 'wageofficelaw39.LedgerCorrections': WHATEVER THE INPUT: true; the input reads as it did. -/
def ledgerCorrectionsSpec : ChangeSpec := { name := "ledgerCorrections", fn := fun _ => fun
  | [d1, d2, d3, d4, d5] => { results := [.lit (.bool true)], args := [d1, d2, d3, d4, d5] }
  | _ => none }
def ledgerCorrectionsRow : OpenClaim := { program := "ytbmochegfdljfaa", sum := "021d5d5dfb532c3fe44fa2aad2d9a64c490fd15d3cec8d6246edc8b7be3f2bf7", func := "wageoffice/wageofficelaw39.LedgerCorrections", spec := "ledgerCorrections", unfollowed := true, recurses := true, apart := false }
def LedgerCorrectionsSaid : Prop := ledgerCorrectionsRow.holds Try.pinned (OpenSpec.ofChange ledgerCorrectionsSpec)

/-- ITS FALSE NEIGHBOUR: 'it returns false'. Refute it at one input. -/
def ledgerCorrectionsWrong : ChangeSpec := { name := "ledgerCorrections", fn := fun _ => fun
  | [d1, d2, d3, d4, d5] => { results := [.lit (.bool false)], args := [d1, d2, d3, d4, d5] }
  | _ => none }
def LedgerCorrectionsWrongFalsely : Prop := ledgerCorrectionsRow.holds Try.pinned (OpenSpec.ofChange ledgerCorrectionsWrong)

/-- 'wageofficelaw40.SettleMatchesReference': WHATEVER THE INPUT: true; the input reads as it did. -/
def settleMatchesReferenceSpec : ChangeSpec := { name := "settleMatchesReference", fn := fun _ => fun
  | [d1, d2, d3, d4] => { results := [.lit (.bool true)], args := [d1, d2, d3, d4] }
  | _ => none }
def settleMatchesReferenceRow : OpenClaim := { program := "ytbmochegfdljfaa", sum := "021d5d5dfb532c3fe44fa2aad2d9a64c490fd15d3cec8d6246edc8b7be3f2bf7", func := "wageoffice/wageofficelaw40.SettleMatchesReference", spec := "settleMatchesReference", inPlace := ["slices.overlaps[wageoffice/api.Answer]"], unfollowed := true, recurses := true, apart := false }
def SettleMatchesReferenceSaid : Prop := settleMatchesReferenceRow.holds Try.pinned (OpenSpec.ofChange settleMatchesReferenceSpec)

/-- ITS FALSE NEIGHBOUR: 'it returns false'. Refute it at one input. -/
def settleMatchesReferenceWrong : ChangeSpec := { name := "settleMatchesReference", fn := fun _ => fun
  | [d1, d2, d3, d4] => { results := [.lit (.bool false)], args := [d1, d2, d3, d4] }
  | _ => none }
def SettleMatchesReferenceWrongFalsely : Prop := settleMatchesReferenceRow.holds Try.pinned (OpenSpec.ofChange settleMatchesReferenceWrong)

/-- 'wageofficelaw40.SettleValid': WHATEVER THE INPUT: true; the input reads as it did. -/
def settleValidSpec : ChangeSpec := { name := "settleValid", fn := fun _ => fun
  | [d1, d2, d3] => { results := [.lit (.bool true)], args := [d1, d2, d3] }
  | _ => none }
def settleValidRow : OpenClaim := { program := "ytbmochegfdljfaa", sum := "021d5d5dfb532c3fe44fa2aad2d9a64c490fd15d3cec8d6246edc8b7be3f2bf7", func := "wageoffice/wageofficelaw40.SettleValid", spec := "settleValid", inPlace := ["slices.overlaps[wageoffice/api.Answer]"], unfollowed := true, recurses := true, apart := false }
def SettleValidSaid : Prop := settleValidRow.holds Try.pinned (OpenSpec.ofChange settleValidSpec)

/-- ITS FALSE NEIGHBOUR: 'it returns false'. Refute it at one input. -/
def settleValidWrong : ChangeSpec := { name := "settleValid", fn := fun _ => fun
  | [d1, d2, d3] => { results := [.lit (.bool false)], args := [d1, d2, d3] }
  | _ => none }
def SettleValidWrongFalsely : Prop := settleValidRow.holds Try.pinned (OpenSpec.ofChange settleValidWrong)

/-- 'wageofficelaw40.SettleOnce': WHATEVER THE INPUT: true; the input reads as it did. -/
def settleOnceSpec : ChangeSpec := { name := "settleOnce", fn := fun _ => fun
  | [d1, d2, d3] => { results := [.lit (.bool true)], args := [d1, d2, d3] }
  | _ => none }
def settleOnceRow : OpenClaim := { program := "ytbmochegfdljfaa", sum := "021d5d5dfb532c3fe44fa2aad2d9a64c490fd15d3cec8d6246edc8b7be3f2bf7", func := "wageoffice/wageofficelaw40.SettleOnce", spec := "settleOnce", inPlace := ["slices.overlaps[wageoffice/api.Answer]"], unfollowed := true, recurses := true, apart := false }
def SettleOnceSaid : Prop := settleOnceRow.holds Try.pinned (OpenSpec.ofChange settleOnceSpec)

/-- ITS FALSE NEIGHBOUR: 'it returns false'. Refute it at one input. -/
def settleOnceWrong : ChangeSpec := { name := "settleOnce", fn := fun _ => fun
  | [d1, d2, d3] => { results := [.lit (.bool false)], args := [d1, d2, d3] }
  | _ => none }
def SettleOnceWrongFalsely : Prop := settleOnceRow.holds Try.pinned (OpenSpec.ofChange settleOnceWrong)

/-- 'wageofficelaw40.SettleOrder': WHATEVER THE INPUT: true; the input reads as it did. -/
def settleOrderSpec : ChangeSpec := { name := "settleOrder", fn := fun _ => fun
  | [d1, d2, d3] => { results := [.lit (.bool true)], args := [d1, d2, d3] }
  | _ => none }
def settleOrderRow : OpenClaim := { program := "ytbmochegfdljfaa", sum := "021d5d5dfb532c3fe44fa2aad2d9a64c490fd15d3cec8d6246edc8b7be3f2bf7", func := "wageoffice/wageofficelaw40.SettleOrder", spec := "settleOrder", inPlace := ["slices.overlaps[wageoffice/api.Answer]"], unfollowed := true, recurses := true, apart := false }
def SettleOrderSaid : Prop := settleOrderRow.holds Try.pinned (OpenSpec.ofChange settleOrderSpec)

/-- ITS FALSE NEIGHBOUR: 'it returns false'. Refute it at one input. -/
def settleOrderWrong : ChangeSpec := { name := "settleOrder", fn := fun _ => fun
  | [d1, d2, d3] => { results := [.lit (.bool false)], args := [d1, d2, d3] }
  | _ => none }
def SettleOrderWrongFalsely : Prop := settleOrderRow.holds Try.pinned (OpenSpec.ofChange settleOrderWrong)

/-- 'wageofficelaw40.SettleAppends': WHATEVER THE INPUT: true; the input reads as it did. -/
def settleAppendsSpec : ChangeSpec := { name := "settleAppends", fn := fun _ => fun
  | [d1, d2, d3] => { results := [.lit (.bool true)], args := [d1, d2, d3] }
  | _ => none }
def settleAppendsRow : OpenClaim := { program := "ytbmochegfdljfaa", sum := "021d5d5dfb532c3fe44fa2aad2d9a64c490fd15d3cec8d6246edc8b7be3f2bf7", func := "wageoffice/wageofficelaw40.SettleAppends", spec := "settleAppends", inPlace := ["slices.overlaps[wageoffice/api.Answer]"], unfollowed := true, recurses := true, apart := false }
def SettleAppendsSaid : Prop := settleAppendsRow.holds Try.pinned (OpenSpec.ofChange settleAppendsSpec)

/-- ITS FALSE NEIGHBOUR: 'it returns false'. Refute it at one input. -/
def settleAppendsWrong : ChangeSpec := { name := "settleAppends", fn := fun _ => fun
  | [d1, d2, d3] => { results := [.lit (.bool false)], args := [d1, d2, d3] }
  | _ => none }
def SettleAppendsWrongFalsely : Prop := settleAppendsRow.holds Try.pinned (OpenSpec.ofChange settleAppendsWrong)

/-- 'wageofficelaw40.SettleBounds': WHATEVER THE INPUT: true; the input reads as it did. -/
def settleBoundsSpec : ChangeSpec := { name := "settleBounds", fn := fun _ => fun
  | [d1, d2] => { results := [.lit (.bool true)], args := [d1, d2] }
  | _ => none }
def settleBoundsRow : OpenClaim := { program := "ytbmochegfdljfaa", sum := "021d5d5dfb532c3fe44fa2aad2d9a64c490fd15d3cec8d6246edc8b7be3f2bf7", func := "wageoffice/wageofficelaw40.SettleBounds", spec := "settleBounds", inPlace := ["slices.overlaps[wageoffice/api.Answer]"], unfollowed := true, recurses := true, apart := false }
def SettleBoundsSaid : Prop := settleBoundsRow.holds Try.pinned (OpenSpec.ofChange settleBoundsSpec)

/-- ITS FALSE NEIGHBOUR: 'it returns false'. Refute it at one input. -/
def settleBoundsWrong : ChangeSpec := { name := "settleBounds", fn := fun _ => fun
  | [d1, d2] => { results := [.lit (.bool false)], args := [d1, d2] }
  | _ => none }
def SettleBoundsWrongFalsely : Prop := settleBoundsRow.holds Try.pinned (OpenSpec.ofChange settleBoundsWrong)

/-- 'wageofficelaw40.SettleBooks': WHATEVER THE INPUT: true; the input reads as it did. -/
def settleBooksSpec : ChangeSpec := { name := "settleBooks", fn := fun _ => fun
  | [d] => { results := [.lit (.bool true)], args := [d] }
  | _ => none }
def settleBooksRow : OpenClaim := { program := "ytbmochegfdljfaa", sum := "021d5d5dfb532c3fe44fa2aad2d9a64c490fd15d3cec8d6246edc8b7be3f2bf7", func := "wageoffice/wageofficelaw40.SettleBooks", spec := "settleBooks", inPlace := ["slices.overlaps[wageoffice/api.Answer]"], unfollowed := true, recurses := true, apart := false }
def SettleBooksSaid : Prop := settleBooksRow.holds Try.pinned (OpenSpec.ofChange settleBooksSpec)

/-- ITS FALSE NEIGHBOUR: 'it returns false'. Refute it at one input. -/
def settleBooksWrong : ChangeSpec := { name := "settleBooks", fn := fun _ => fun
  | [d] => { results := [.lit (.bool false)], args := [d] }
  | _ => none }
def SettleBooksWrongFalsely : Prop := settleBooksRow.holds Try.pinned (OpenSpec.ofChange settleBooksWrong)

/- THE SECOND FORM. 'bulk': how many values and letters a reading holds, each counted each time it is reached (what is shared counts as often as it is met; a slice's spare places count too). A statement '..UptoSaid' is the law's where the arguments, and the package variables that the reading takes, are together of bulk at most 1048576: NARROWER than '..Said'. Prove '..Said' where nothing that the law and all that it calls make is longer than what came in: it says more and counts as full. Else prove '..UptoSaid'. A law counts once. -/
mutual
def uptoBulk {H : Type} : DataW H → Nat
  | .lit (.string bytes) => bytes.length + 1
  | .lit _ => 1
  | .nil => 1
  | .ptr d => uptoBulk d + 1
  | .slice elems spare => uptoBulkAll elems + uptoBulkAll spare + 1
  | .agg parts => uptoBulkAll parts + 1
  | .iface _ d => uptoBulk d + 1
  | .map entries => uptoBulkEntries entries + 1
  | .held _ => 1
def uptoBulkAll {H : Type} : List (DataW H) → Nat
  | [] => 0
  | d :: r => uptoBulk d + uptoBulkAll r
def uptoBulkEntries {H : Type} : List (Lit × DataW H) → Nat
  | [] => 0
  | x :: r => uptoBulkEntry x + uptoBulkEntries r
def uptoBulkEntry {H : Type} : Lit × DataW H → Nat
  | (.string bytes, d) => bytes.length + uptoBulk d + 1
  | (_, d) => uptoBulk d + 1
 end
def uptoSmall : (H : Type) → List (DataW H) → Bool := fun _ ds => decide (uptoBulkAll ds ≤ 1048576)
def OpenSpec.upto (s : _root_.Go.ChangeSpec) : _root_.Go.OpenSpec := { _root_.Go.OpenSpec.ofChange s with cond := some uptoSmall }

/-- 'wageofficelaw39.LedgerMatchesReference', WHERE WHAT IT READS IS OF BULK AT MOST 1048576: true; the input reads as it did. -/
def ledgerMatchesReferenceUptoRow : OpenClaim := { program := "ytbmochegfdljfaa", sum := "021d5d5dfb532c3fe44fa2aad2d9a64c490fd15d3cec8d6246edc8b7be3f2bf7", func := "wageoffice/wageofficelaw39.LedgerMatchesReference", spec := "ledgerMatchesReference", unfollowed := true, recurses := true, apart := false, narrowed := true }
def LedgerMatchesReferenceUptoSaid : Prop := ledgerMatchesReferenceUptoRow.holds Try.pinned (OpenSpec.upto ledgerMatchesReferenceSpec)

/-- 'wageofficelaw39.LedgerZero', WHERE WHAT IT READS IS OF BULK AT MOST 1048576: true; the input reads as it did. -/
def ledgerZeroUptoRow : OpenClaim := { program := "ytbmochegfdljfaa", sum := "021d5d5dfb532c3fe44fa2aad2d9a64c490fd15d3cec8d6246edc8b7be3f2bf7", func := "wageoffice/wageofficelaw39.LedgerZero", spec := "ledgerZero", unfollowed := true, recurses := true, apart := false, narrowed := true }
def LedgerZeroUptoSaid : Prop := ledgerZeroUptoRow.holds Try.pinned (OpenSpec.upto ledgerZeroSpec)

/-- 'wageofficelaw39.LedgerPosting', WHERE WHAT IT READS IS OF BULK AT MOST 1048576: true; the input reads as it did. -/
def ledgerPostingUptoRow : OpenClaim := { program := "ytbmochegfdljfaa", sum := "021d5d5dfb532c3fe44fa2aad2d9a64c490fd15d3cec8d6246edc8b7be3f2bf7", func := "wageoffice/wageofficelaw39.LedgerPosting", spec := "ledgerPosting", unfollowed := true, recurses := true, apart := false, narrowed := true }
def LedgerPostingUptoSaid : Prop := ledgerPostingUptoRow.holds Try.pinned (OpenSpec.upto ledgerPostingSpec)

/-- 'wageofficelaw39.LedgerOnce', WHERE WHAT IT READS IS OF BULK AT MOST 1048576: true; the input reads as it did. -/
def ledgerOnceUptoRow : OpenClaim := { program := "ytbmochegfdljfaa", sum := "021d5d5dfb532c3fe44fa2aad2d9a64c490fd15d3cec8d6246edc8b7be3f2bf7", func := "wageoffice/wageofficelaw39.LedgerOnce", spec := "ledgerOnce", unfollowed := true, recurses := true, apart := false, narrowed := true }
def LedgerOnceUptoSaid : Prop := ledgerOnceUptoRow.holds Try.pinned (OpenSpec.upto ledgerOnceSpec)

/-- 'wageofficelaw39.LedgerPast', WHERE WHAT IT READS IS OF BULK AT MOST 1048576: true; the input reads as it did. -/
def ledgerPastUptoRow : OpenClaim := { program := "ytbmochegfdljfaa", sum := "021d5d5dfb532c3fe44fa2aad2d9a64c490fd15d3cec8d6246edc8b7be3f2bf7", func := "wageoffice/wageofficelaw39.LedgerPast", spec := "ledgerPast", unfollowed := true, recurses := true, apart := false, narrowed := true }
def LedgerPastUptoSaid : Prop := ledgerPastUptoRow.holds Try.pinned (OpenSpec.upto ledgerPastSpec)

/-- 'wageofficelaw39.LedgerOrder', WHERE WHAT IT READS IS OF BULK AT MOST 1048576: true; the input reads as it did. -/
def ledgerOrderUptoRow : OpenClaim := { program := "ytbmochegfdljfaa", sum := "021d5d5dfb532c3fe44fa2aad2d9a64c490fd15d3cec8d6246edc8b7be3f2bf7", func := "wageoffice/wageofficelaw39.LedgerOrder", spec := "ledgerOrder", unfollowed := true, recurses := true, apart := false, narrowed := true }
def LedgerOrderUptoSaid : Prop := ledgerOrderUptoRow.holds Try.pinned (OpenSpec.upto ledgerOrderSpec)

/-- 'wageofficelaw39.LedgerDifferences', WHERE WHAT IT READS IS OF BULK AT MOST 1048576: true; the input reads as it did. -/
def ledgerDifferencesUptoRow : OpenClaim := { program := "ytbmochegfdljfaa", sum := "021d5d5dfb532c3fe44fa2aad2d9a64c490fd15d3cec8d6246edc8b7be3f2bf7", func := "wageoffice/wageofficelaw39.LedgerDifferences", spec := "ledgerDifferences", unfollowed := true, recurses := true, apart := false, narrowed := true }
def LedgerDifferencesUptoSaid : Prop := ledgerDifferencesUptoRow.holds Try.pinned (OpenSpec.upto ledgerDifferencesSpec)

/-- 'wageofficelaw39.LedgerCorrections', WHERE WHAT IT READS IS OF BULK AT MOST 1048576: true; the input reads as it did. -/
def ledgerCorrectionsUptoRow : OpenClaim := { program := "ytbmochegfdljfaa", sum := "021d5d5dfb532c3fe44fa2aad2d9a64c490fd15d3cec8d6246edc8b7be3f2bf7", func := "wageoffice/wageofficelaw39.LedgerCorrections", spec := "ledgerCorrections", unfollowed := true, recurses := true, apart := false, narrowed := true }
def LedgerCorrectionsUptoSaid : Prop := ledgerCorrectionsUptoRow.holds Try.pinned (OpenSpec.upto ledgerCorrectionsSpec)

/-- 'wageofficelaw40.SettleMatchesReference', WHERE WHAT IT READS IS OF BULK AT MOST 1048576: true; the input reads as it did. -/
def settleMatchesReferenceUptoRow : OpenClaim := { program := "ytbmochegfdljfaa", sum := "021d5d5dfb532c3fe44fa2aad2d9a64c490fd15d3cec8d6246edc8b7be3f2bf7", func := "wageoffice/wageofficelaw40.SettleMatchesReference", spec := "settleMatchesReference", inPlace := ["slices.overlaps[wageoffice/api.Answer]"], unfollowed := true, recurses := true, apart := false, narrowed := true }
def SettleMatchesReferenceUptoSaid : Prop := settleMatchesReferenceUptoRow.holds Try.pinned (OpenSpec.upto settleMatchesReferenceSpec)

/-- 'wageofficelaw40.SettleValid', WHERE WHAT IT READS IS OF BULK AT MOST 1048576: true; the input reads as it did. -/
def settleValidUptoRow : OpenClaim := { program := "ytbmochegfdljfaa", sum := "021d5d5dfb532c3fe44fa2aad2d9a64c490fd15d3cec8d6246edc8b7be3f2bf7", func := "wageoffice/wageofficelaw40.SettleValid", spec := "settleValid", inPlace := ["slices.overlaps[wageoffice/api.Answer]"], unfollowed := true, recurses := true, apart := false, narrowed := true }
def SettleValidUptoSaid : Prop := settleValidUptoRow.holds Try.pinned (OpenSpec.upto settleValidSpec)

/-- 'wageofficelaw40.SettleOnce', WHERE WHAT IT READS IS OF BULK AT MOST 1048576: true; the input reads as it did. -/
def settleOnceUptoRow : OpenClaim := { program := "ytbmochegfdljfaa", sum := "021d5d5dfb532c3fe44fa2aad2d9a64c490fd15d3cec8d6246edc8b7be3f2bf7", func := "wageoffice/wageofficelaw40.SettleOnce", spec := "settleOnce", inPlace := ["slices.overlaps[wageoffice/api.Answer]"], unfollowed := true, recurses := true, apart := false, narrowed := true }
def SettleOnceUptoSaid : Prop := settleOnceUptoRow.holds Try.pinned (OpenSpec.upto settleOnceSpec)

/-- 'wageofficelaw40.SettleOrder', WHERE WHAT IT READS IS OF BULK AT MOST 1048576: true; the input reads as it did. -/
def settleOrderUptoRow : OpenClaim := { program := "ytbmochegfdljfaa", sum := "021d5d5dfb532c3fe44fa2aad2d9a64c490fd15d3cec8d6246edc8b7be3f2bf7", func := "wageoffice/wageofficelaw40.SettleOrder", spec := "settleOrder", inPlace := ["slices.overlaps[wageoffice/api.Answer]"], unfollowed := true, recurses := true, apart := false, narrowed := true }
def SettleOrderUptoSaid : Prop := settleOrderUptoRow.holds Try.pinned (OpenSpec.upto settleOrderSpec)

/-- 'wageofficelaw40.SettleAppends', WHERE WHAT IT READS IS OF BULK AT MOST 1048576: true; the input reads as it did. -/
def settleAppendsUptoRow : OpenClaim := { program := "ytbmochegfdljfaa", sum := "021d5d5dfb532c3fe44fa2aad2d9a64c490fd15d3cec8d6246edc8b7be3f2bf7", func := "wageoffice/wageofficelaw40.SettleAppends", spec := "settleAppends", inPlace := ["slices.overlaps[wageoffice/api.Answer]"], unfollowed := true, recurses := true, apart := false, narrowed := true }
def SettleAppendsUptoSaid : Prop := settleAppendsUptoRow.holds Try.pinned (OpenSpec.upto settleAppendsSpec)

/-- 'wageofficelaw40.SettleBounds', WHERE WHAT IT READS IS OF BULK AT MOST 1048576: true; the input reads as it did. -/
def settleBoundsUptoRow : OpenClaim := { program := "ytbmochegfdljfaa", sum := "021d5d5dfb532c3fe44fa2aad2d9a64c490fd15d3cec8d6246edc8b7be3f2bf7", func := "wageoffice/wageofficelaw40.SettleBounds", spec := "settleBounds", inPlace := ["slices.overlaps[wageoffice/api.Answer]"], unfollowed := true, recurses := true, apart := false, narrowed := true }
def SettleBoundsUptoSaid : Prop := settleBoundsUptoRow.holds Try.pinned (OpenSpec.upto settleBoundsSpec)

/-- 'wageofficelaw40.SettleBooks', WHERE WHAT IT READS IS OF BULK AT MOST 1048576: true; the input reads as it did. -/
def settleBooksUptoRow : OpenClaim := { program := "ytbmochegfdljfaa", sum := "021d5d5dfb532c3fe44fa2aad2d9a64c490fd15d3cec8d6246edc8b7be3f2bf7", func := "wageoffice/wageofficelaw40.SettleBooks", spec := "settleBooks", inPlace := ["slices.overlaps[wageoffice/api.Answer]"], unfollowed := true, recurses := true, apart := false, narrowed := true }
def SettleBooksUptoSaid : Prop := settleBooksUptoRow.holds Try.pinned (OpenSpec.upto settleBooksSpec)

end Rows
end Go.Proofs.Ytbmochegfdljfaa
