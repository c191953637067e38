-- Words of the kit's print,less what this claim does not name (wip/sh/prune.py).
import Derived.Test.YtbmochegfdljfaaWTab
/-! ### 56. Four,five,six operations that may come up next,in any order -/
namespace Go.Proofs.YtbmochegfdljfaaW.PrintLast
section
variable {P : Program} {ops : Array Oper} {Q : Exit → Act → World → Prop} {md : Region.Mode} {S : World → Prop} {ds : List Nat} {T : Bool × List (List Nat × List Nat)}
end
end Go.Proofs.YtbmochegfdljfaaW.PrintLast
