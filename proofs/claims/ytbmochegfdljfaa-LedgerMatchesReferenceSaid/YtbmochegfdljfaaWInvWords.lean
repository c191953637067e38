-- Words of the kit's print,less what this claim does not name (wip/sh/prune.py).
import Derived.Test.YtbmochegfdljfaaWInv
import Derived.Test.YtbmochegfdljfaaWFootNe
namespace Go.Proofs.YtbmochegfdljfaaW.PrintWords
open Go.RowKit
end Go.Proofs.YtbmochegfdljfaaW.PrintWords
namespace Go.Proofs.YtbmochegfdljfaaW.PrintLast
section
variable {ops : Array Oper} {a : Act} {o og : Oper} {g : Nat} {t : Tmp} {u : Bool}
end
end Go.Proofs.YtbmochegfdljfaaW.PrintLast
