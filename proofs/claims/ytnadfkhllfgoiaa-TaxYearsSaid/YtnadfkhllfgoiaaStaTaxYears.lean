-- Written by a program of this session (wip/myprint.py), which drives the kit's print over hand-written fragments. Not trusted: Lean checks it.
import Derived.Test.YtnadfkhllfgoiaaMyx9
import Derived.Test.YtnadfkhllfgoiaaOpnT
namespace Go.Proofs.Ytnadfkhllfgoiaa.My
open Go.RowKit Go.Proofs.Ytnadfkhllfgoiaa.My Go.Proofs.YtnadfkhllfgoiaaW.PrintWords Go.Proofs.YtnadfkhllfgoiaaW.PrintLast Go.Proofs.YtnadfkhllfgoiaaW.PrintMore Go.Proofs.Ytnadfkhllfgoiaa.Opn
set_option linter.unusedVariables false
set_option linter.unusedSimpArgs false
def wageofficelaw28_TaxYears.Pure : Prop := ∀ (l0 : List (S44)) (a1 : Int), ((l0.length ≤ maxLen ∧ ∀ y ∈ l0, B44 y)) → ((Lit.int .i64 a1).wf = true) → ∃ k, wageofficelaw28_TaxYears.f k l0 a1 = some true
theorem wageofficelaw28_TaxYears.truth (P : wageofficelaw28_TaxYears.Pure) (A0 : Option Addr) (c0 : Nat) (l0 : List (S44)) (a1 : Int) (w : World) (hr0 : Kd.F k44 w (fun _ => True) A0 l0.length l0) (hc0 : l0.length ≤ c0) (hb0 : (l0.length ≤ maxLen ∧ ∀ y ∈ l0, B44 y)) (hb1 : (Lit.int .i64 a1).wf = true) :
    Calls Try.prog 9 #[.slice A0 l0.length c0, .int .i64 a1] w fun e w' => e = .returned (.bool true) ∧ Below w.heap.size w w' := by
  obtain ⟨k, h⟩ := P l0 a1 hb0 hb1
  exact (wageofficelaw28_TaxYears.calls k (fun _ => True) A0 c0 l0 a1 true w (Kd.V_mk hc0 hr0) h).mono (fun e w' he => ⟨he.1, he.2⟩)
end Go.Proofs.Ytnadfkhllfgoiaa.My
