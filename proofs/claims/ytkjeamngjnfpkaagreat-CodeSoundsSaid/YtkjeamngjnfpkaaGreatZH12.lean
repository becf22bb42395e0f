/- Own text: ZH12. -/
import Derived.Test.YtkjeamngjnfpkaaGreatZH9
set_option maxRecDepth 100000
set_option linter.unusedVariables false
set_option linter.unusedSimpArgs false
namespace Go.Am
open Go
section
variable {h:List Call}
end
section
variable (S:List Spec) (h:List Call) (hs:SpecsOk S) (hl:h.length<Lg) (l:List Int) (hll:l.length<Lg)
include hl hll
include hs
end
end Go.Am

namespace Go.Am
open Go
section
variable (S:List Spec) (h:List Call) (must:Call->Call->Bool)
end
section
variable {S:List Spec} {h:List Call} {must:Call->Call->Bool}
end
end Go.Am
