/- Own text: D1fh. -/
import Derived.Test.YtalfdjihejohoaaD1ga
import Derived.Test.YtalfdjihejohoaaD1r
set_option maxRecDepth 100000
set_option linter.unusedVariables false
set_option linter.unusedSimpArgs false
namespace Go.Am
open Go Go.Proofs
end Go.Am
