-- Written by a program of this session (wip/myprint.py), which drives the kit's print over hand-written fragments. Not trusted: Lean checks it.
import Derived.Test.YtnadfkhllfgoiaaMyx0
import Derived.Test.YtnadfkhllfgoiaaOpn
namespace Go.Proofs.Ytnadfkhllfgoiaa.My
open Go.RowKit Go.Proofs.Ytnadfkhllfgoiaa.My Go.Proofs.YtnadfkhllfgoiaaW.PrintWords Go.Proofs.YtnadfkhllfgoiaaW.PrintLast Go.Proofs.YtnadfkhllfgoiaaW.PrintMore Go.Proofs.Ytnadfkhllfgoiaa.Opn
set_option linter.unusedVariables false
set_option linter.unusedSimpArgs false
def B75 (x : S75) : Prop := ((Lit.int .i64 x.f0).wf = true) ∧ ((Lit.int .i64 x.f1).wf = true) ∧ ((Lit.int .i64 x.f2).wf = true)
theorem opn75 : Opn Try.prog 75 k75 B75 :=
  Opn.mono (Opn.struct Try.underlying75 (by kernel_rfl) (OpnFs.iso (fun x : S75 => (x.f0, x.f1, x.f2)) (fun a => (⟨a.1, a.2.1, a.2.2⟩ : S75)) (fun _ => rfl) (OpnFs.cons rfl (by kernel_rfl) (Opn.int Try.underlying3) (OpnFs.cons rfl (by kernel_rfl) (Opn.int Try.underlying3) (OpnFs.one rfl (by kernel_rfl) (Opn.int Try.underlying3)))))) (fun _ h => h)
def B42 (x : S42) : Prop := ((Lit.int .i64 x.f0).wf = true) ∧ ((x.f1.length ≤ maxLen ∧ ∀ y ∈ x.f1, B75 y))
theorem opn42 : Opn Try.prog 42 k42 B42 :=
  Opn.mono (Opn.struct Try.underlying42 (by kernel_rfl) (OpnFs.iso (fun x : S42 => (x.f0, x.f1)) (fun a => (⟨a.1, a.2⟩ : S42)) (fun _ => rfl) (OpnFs.cons rfl (by kernel_rfl) (Opn.int Try.underlying3) (OpnFs.one rfl (by kernel_rfl) (Opn.slice Try.underlying40 (by kernel_rfl) opn75))))) (fun _ h => h)
def B44 (x : S44) : Prop := ((Lit.int .i64 x.f0).wf = true) ∧ (B42 x.f1)
theorem opn44 : Opn Try.prog 44 k44 B44 :=
  Opn.mono (Opn.struct Try.underlying44 (by kernel_rfl) (OpnFs.iso (fun x : S44 => (x.f0, x.f1)) (fun a => (⟨a.1, a.2⟩ : S44)) (fun _ => rfl) (OpnFs.cons rfl (by kernel_rfl) (Opn.int Try.underlying3) (OpnFs.one rfl (by kernel_rfl) opn42)))) (fun _ h => h)
end Go.Proofs.Ytnadfkhllfgoiaa.My
