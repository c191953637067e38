-- Written by a program of this session (wip/myprint.py), which drives the kit's print over hand-written fragments. Not trusted: Lean checks it.
import Derived.Test.YtbmochegfdljfaaMyx9
import Derived.Test.YtbmochegfdljfaaOpnT
namespace Go.Proofs.Ytbmochegfdljfaa.My
open Go.RowKit Go.Proofs.Ytbmochegfdljfaa.My Go.Proofs.YtbmochegfdljfaaW.PrintWords Go.Proofs.YtbmochegfdljfaaW.PrintLast Go.Proofs.YtbmochegfdljfaaW.PrintMore Go.Proofs.Ytbmochegfdljfaa.Opn
set_option linter.unusedVariables false
set_option linter.unusedSimpArgs false
def wageofficelaw39_LedgerDifferences.Pure : Prop := ∀ (l0_0 : List (S26)) (a1 : ByteArray) (a2 : Int) (a3 : Int) (a4 : Int), ((l0_0.length ≤ maxLen ∧ ∀ y ∈ l0_0, B26 y)) → (a1.size ≤ maxLen) → ((Lit.int .i64 a2).wf = true) → ((Lit.int .i64 a3).wf = true) → ((Lit.int .i64 a4).wf = true) → ∃ k, wageofficelaw39_LedgerDifferences.f k l0_0 a1 a2 a3 a4 = some true
theorem wageofficelaw39_LedgerDifferences.truth (P : wageofficelaw39_LedgerDifferences.Pure) (A0_0 : Option Addr) (c0_0 : Nat) (l0_0 : List (S26)) (a1 : ByteArray) (a2 : Int) (a3 : Int) (a4 : Int) (w : World) (hr0_0 : Kd.F k26 w (fun _ => True) A0_0 l0_0.length l0_0) (hc0_0 : l0_0.length ≤ c0_0) (hb0_0 : (l0_0.length ≤ maxLen ∧ ∀ y ∈ l0_0, B26 y)) (hb1 : a1.size ≤ maxLen) (hb2 : (Lit.int .i64 a2).wf = true) (hb3 : (Lit.int .i64 a3).wf = true) (hb4 : (Lit.int .i64 a4).wf = true) :
    Calls Try.prog 9 #[.agg #[.slice A0_0 l0_0.length c0_0], .string a1, .int .i64 a2, .int .i64 a3, .int .i64 a4] w fun e w' => e = .returned (.bool true) ∧ Below w.heap.size w w' := by
  obtain ⟨k, h⟩ := P l0_0 a1 a2 a3 a4 hb0_0 hb1 hb2 hb3 hb4
  exact (wageofficelaw39_LedgerDifferences.calls k A0_0 c0_0 l0_0 a1 a2 a3 a4 true w (Kd.F_now hr0_0) hc0_0 h).mono (fun e w' he => ⟨he.1, he.2⟩)
end Go.Proofs.Ytbmochegfdljfaa.My
