-- Words of the kit's print,less what this claim does not name (wip/sh/prune.py).
-- PRINTED WORDS (module Derived/Print/Sized.lean): go-gate-2's,for the rows of laws over slices: an AI agent of Go's test side,Tue Nov 17 2026;no person has read it. Lean checks it.
import Derived.SizedLaws
import Derived.ChangeSlices
namespace Go.Proofs.YtbmochegfdljfaaW.PrintWords
open Go.ChangeShapes Go.WideShapes
end Go.Proofs.YtbmochegfdljfaaW.PrintWords
