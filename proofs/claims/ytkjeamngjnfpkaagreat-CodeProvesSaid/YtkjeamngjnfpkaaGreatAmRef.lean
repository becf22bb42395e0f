/- Own text: AmRef. -/
import Derived.Test.YtkjeamngjnfpkaaGreatAmLaw
set_option linter.unusedVariables false
namespace Go.Am
open Go
end Go.Am
