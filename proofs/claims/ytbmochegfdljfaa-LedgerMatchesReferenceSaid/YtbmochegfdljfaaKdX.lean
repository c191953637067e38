/- Laws on memory beside the print's words: a slice made with no element and a capacity of its own. -/
import Derived.Test.YtbmochegfdljfaaAid
import Derived.Test.YtbmochegfdljfaaWSized
namespace Go.Proofs.Ytbmochegfdljfaa.KdX
open Go.RowKit Go.Proofs.YtbmochegfdljfaaW.PrintWords Go.Proofs.YtbmochegfdljfaaW.PrintLast Go.Proofs.YtbmochegfdljfaaW.PrintMore
set_option linter.unusedVariables false
set_option linter.unusedSimpArgs false

section
variable {P : Program} {ops : Array Oper} {rest : List Oper} {o : Oper} {a : Act} {Q : Exit → Act → World → Prop} {Kc : Act → World → Prop} {α : Type}
end
theorem emp_own {α : Type} {W : World} {d : Kd α} {base e : Nat} {ok : Nat → Prop} (hfresh : ok W.heap.size) (hbase : base ≤ W.heap.size) : d.R e (W.alloc (.cells #[] e)) base ok (.slice (some ⟨W.heap.size,0,none⟩) 0 0) [] := by
  refine ⟨fun k hk => ?_,[],?_,Reps.none _ _⟩
  · have : W.heap.size = k := by simpa [Value.ownBlock] using hk
    subst this
    exact hfresh
  · exact World.ownsRow_made W _ _ hbase (by unfold maxLen;omega) (by simp)
/-- 's == nil' on a slice. -/
theorem eql_nil {P : Program} (w : World) (t e : TypeId) (a : Option Addr) (n c : Nat) (h : P.underlying t = some (.slice e)) : (binOp .eql t (.slice a n c) (.slice none 0 0)).run P w = .ok (.bool a.isNone) w := by
  have hq : ∀ d : Nat,(Op.equalIn (d + 1) t (.slice a n c) (.slice none 0 0)).run P w = .ok a.isNone w := fun d => by
    cases a <;> simp [Op.equalIn,run_underlying h]
  simp only [binOp]
  simp [Op.equal,Op.maxDepth,hq]
end Go.Proofs.Ytbmochegfdljfaa.KdX
