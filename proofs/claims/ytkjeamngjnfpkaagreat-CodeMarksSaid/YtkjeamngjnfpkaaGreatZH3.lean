/- Own text: ZH3. -/
import Derived.Test.YtkjeamngjnfpkaaGreatZL21
set_option maxRecDepth 100000
set_option linter.unusedVariables false
set_option linter.unusedSimpArgs false
namespace Go.Am
open Go
namespace Call
end Call
end Go.Am
namespace Go.Am
section
variable (a b:Int) (t u:List D) (lim:Int)
end
end Go.Am

set_option maxRecDepth 100000
set_option linter.unusedVariables false
set_option linter.unusedSimpArgs false
namespace Go.Am
open Go
end Go.Am
namespace Go.Am
end Go.Am

set_option maxRecDepth 100000
set_option linter.unusedVariables false
set_option linter.unusedSimpArgs false
namespace Go.Am
open Go
end Go.Am
