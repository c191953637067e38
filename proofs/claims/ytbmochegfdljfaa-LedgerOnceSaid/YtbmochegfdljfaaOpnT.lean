-- Written by a program of this session (wip/myprint.py), which drives the kit's print over hand-written fragments. Not trusted: Lean checks it.
import Derived.Test.YtbmochegfdljfaaMyx0
import Derived.Test.YtbmochegfdljfaaOpn
namespace Go.Proofs.Ytbmochegfdljfaa.My
open Go.RowKit Go.Proofs.Ytbmochegfdljfaa.My Go.Proofs.YtbmochegfdljfaaW.PrintWords Go.Proofs.YtbmochegfdljfaaW.PrintLast Go.Proofs.YtbmochegfdljfaaW.PrintMore Go.Proofs.Ytbmochegfdljfaa.Opn
set_option linter.unusedVariables false
set_option linter.unusedSimpArgs false
def B26 (x : S26) : Prop := ((Lit.int .i64 x.f0).wf = true) ∧ (x.f1.size ≤ maxLen) ∧ (x.f2.size ≤ maxLen) ∧ ((Lit.int .i64 x.f3).wf = true) ∧ ((Lit.int .i64 x.f4).wf = true) ∧ ((Lit.int .i64 x.f5).wf = true)
theorem opn26 : Opn Try.prog 26 k26 B26 :=
  Opn.mono (Opn.struct Try.underlying26 (by kernel_rfl) (OpnFs.iso (fun x : S26 => (x.f0, x.f1, x.f2, x.f3, x.f4, x.f5)) (fun a => (⟨a.1, a.2.1, a.2.2.1, a.2.2.2.1, a.2.2.2.2.1, a.2.2.2.2.2⟩ : S26)) (fun _ => rfl) (OpnFs.cons rfl (by kernel_rfl) (Opn.int Try.underlying3) (OpnFs.cons rfl (by kernel_rfl) (Opn.string Try.underlying9) (OpnFs.cons rfl (by kernel_rfl) (Opn.string Try.underlying9) (OpnFs.cons rfl (by kernel_rfl) (Opn.int Try.underlying3) (OpnFs.cons rfl (by kernel_rfl) (Opn.int Try.underlying3) (OpnFs.one rfl (by kernel_rfl) (Opn.int Try.underlying3))))))))) (fun _ h => h)
def B24 (x : S24) : Prop := ((x.f0.length ≤ maxLen ∧ ∀ y ∈ x.f0, B26 y))
theorem opn24 : Opn Try.prog 24 k24 B24 :=
  Opn.mono (Opn.struct Try.underlying24 (by kernel_rfl) (OpnFs.iso (fun x : S24 => x.f0) (fun a => (⟨a⟩ : S24)) (fun _ => rfl) (OpnFs.one rfl (by kernel_rfl) (Opn.slice Try.underlying22 (by kernel_rfl) opn26)))) (fun _ h => h)
end Go.Proofs.Ytbmochegfdljfaa.My
