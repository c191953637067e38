-- Written by a program of this session (wip/myprint.py), which drives the kit's print over hand-written fragments. Not trusted: Lean checks it.
import Derived.Test.YtbmochegfdljfaaMyx6
import Derived.Test.YtbmochegfdljfaaOpnT
namespace Go.Proofs.Ytbmochegfdljfaa.My
open Go.RowKit Go.Proofs.Ytbmochegfdljfaa.My Go.Proofs.YtbmochegfdljfaaW.PrintWords Go.Proofs.YtbmochegfdljfaaW.PrintLast Go.Proofs.YtbmochegfdljfaaW.PrintMore Go.Proofs.Ytbmochegfdljfaa.Opn
set_option linter.unusedVariables false
set_option linter.unusedSimpArgs false
def wageofficelaw39_LedgerOnce.Pure : Prop := ∀ (l0_0 : List (S26)) (a1_0 : Int) (a1_1 : ByteArray) (a1_2 : ByteArray) (a1_3 : Int) (a1_4 : Int) (a1_5 : Int) (a2 : Int) (a3 : Int), ((l0_0.length ≤ maxLen ∧ ∀ y ∈ l0_0, B26 y)) → ((Lit.int .i64 a1_0).wf = true) → (a1_1.size ≤ maxLen) → (a1_2.size ≤ maxLen) → ((Lit.int .i64 a1_3).wf = true) → ((Lit.int .i64 a1_4).wf = true) → ((Lit.int .i64 a1_5).wf = true) → ((Lit.int .i64 a2).wf = true) → ((Lit.int .i64 a3).wf = true) → ∃ k, wageofficelaw39_LedgerOnce.f k l0_0 a1_0 a1_1 a1_2 a1_3 a1_4 a1_5 a2 a3 = some true
theorem wageofficelaw39_LedgerOnce.truth (P : wageofficelaw39_LedgerOnce.Pure) (A0_0 : Option Addr) (c0_0 : Nat) (l0_0 : List (S26)) (a1_0 : Int) (a1_1 : ByteArray) (a1_2 : ByteArray) (a1_3 : Int) (a1_4 : Int) (a1_5 : Int) (a2 : Int) (a3 : Int) (w : World) (hr0_0 : Kd.F k26 w (fun _ => True) A0_0 l0_0.length l0_0) (hc0_0 : l0_0.length ≤ c0_0) (hb0_0 : (l0_0.length ≤ maxLen ∧ ∀ y ∈ l0_0, B26 y)) (hb1_0 : (Lit.int .i64 a1_0).wf = true) (hb1_1 : a1_1.size ≤ maxLen) (hb1_2 : a1_2.size ≤ maxLen) (hb1_3 : (Lit.int .i64 a1_3).wf = true) (hb1_4 : (Lit.int .i64 a1_4).wf = true) (hb1_5 : (Lit.int .i64 a1_5).wf = true) (hb2 : (Lit.int .i64 a2).wf = true) (hb3 : (Lit.int .i64 a3).wf = true) :
    Calls Try.prog 6 #[.agg #[.slice A0_0 l0_0.length c0_0], .agg #[.int .i64 a1_0, .string a1_1, .string a1_2, .int .i64 a1_3, .int .i64 a1_4, .int .i64 a1_5], .int .i64 a2, .int .i64 a3] w fun e w' => e = .returned (.bool true) ∧ Below w.heap.size w w' := by
  obtain ⟨k, h⟩ := P l0_0 a1_0 a1_1 a1_2 a1_3 a1_4 a1_5 a2 a3 hb0_0 hb1_0 hb1_1 hb1_2 hb1_3 hb1_4 hb1_5 hb2 hb3
  exact (wageofficelaw39_LedgerOnce.calls k A0_0 c0_0 l0_0 a1_0 a1_1 a1_2 a1_3 a1_4 a1_5 a2 a3 true w (Kd.F_now hr0_0) hc0_0 h).mono (fun e w' he => ⟨he.1, he.2⟩)
end Go.Proofs.Ytbmochegfdljfaa.My
