-- Written by a program of this session (wip/myprint.py), which drives the kit's print over hand-written fragments. Not trusted: Lean checks it.
import Derived.Test.YtbmochegfdljfaaMyx7
import Derived.Test.YtbmochegfdljfaaOpnT
namespace Go.Proofs.Ytbmochegfdljfaa.My
open Go.RowKit Go.Proofs.Ytbmochegfdljfaa.My Go.Proofs.YtbmochegfdljfaaW.PrintWords Go.Proofs.YtbmochegfdljfaaW.PrintLast Go.Proofs.YtbmochegfdljfaaW.PrintMore Go.Proofs.Ytbmochegfdljfaa.Opn
set_option linter.unusedVariables false
set_option linter.unusedSimpArgs false
def wageofficelaw39_LedgerPast.Pure : Prop := ∀ (l0_0 : List (S26)) (l1 : List (S26)) (a2 : ByteArray) (a3 : Int) (a4 : Int), ((l0_0.length ≤ maxLen ∧ ∀ y ∈ l0_0, B26 y)) → ((l1.length ≤ maxLen ∧ ∀ y ∈ l1, B26 y)) → (a2.size ≤ maxLen) → ((Lit.int .i64 a3).wf = true) → ((Lit.int .i64 a4).wf = true) → ∃ k, wageofficelaw39_LedgerPast.f k l0_0 l1 a2 a3 a4 = some true
theorem wageofficelaw39_LedgerPast.truth (P : wageofficelaw39_LedgerPast.Pure) (A0_0 : Option Addr) (c0_0 : Nat) (l0_0 : List (S26)) (A1 : Option Addr) (c1 : Nat) (l1 : List (S26)) (a2 : ByteArray) (a3 : Int) (a4 : Int) (w : World) (hr0_0 : Kd.F k26 w (fun _ => True) A0_0 l0_0.length l0_0) (hc0_0 : l0_0.length ≤ c0_0) (hr1 : Kd.F k26 w (fun _ => True) A1 l1.length l1) (hc1 : l1.length ≤ c1) (hb0_0 : (l0_0.length ≤ maxLen ∧ ∀ y ∈ l0_0, B26 y)) (hb1 : (l1.length ≤ maxLen ∧ ∀ y ∈ l1, B26 y)) (hb2 : a2.size ≤ maxLen) (hb3 : (Lit.int .i64 a3).wf = true) (hb4 : (Lit.int .i64 a4).wf = true) :
    Calls Try.prog 7 #[.agg #[.slice A0_0 l0_0.length c0_0], .slice A1 l1.length c1, .string a2, .int .i64 a3, .int .i64 a4] w fun e w' => e = .returned (.bool true) ∧ Below w.heap.size w w' := by
  obtain ⟨k, h⟩ := P l0_0 l1 a2 a3 a4 hb0_0 hb1 hb2 hb3 hb4
  exact (wageofficelaw39_LedgerPast.calls k (fun _ => True) A0_0 c0_0 l0_0 A1 c1 l1 a2 a3 a4 true w (Kd.V_mk hc0_0 hr0_0) (Kd.F_now hr1) hc1 h).mono (fun e w' he => ⟨he.1, he.2⟩)
end Go.Proofs.Ytbmochegfdljfaa.My
