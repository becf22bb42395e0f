import Derived.Test.YtlljehkmemajkaaAmThw
import Derived.Test.YtlljehkmemajkaaAmSrt
set_option linter.unusedSimpArgs false
set_option linter.unusedSectionVars false
set_option linter.unusedVariables false
namespace Go.Am
open Go
section
variable {P:Program} {T:a0j} {m:Nat} {Q:Exit->St->Prop} {σ:St} {ops:Array Oper} {o:Oper} {l:List Oper}
end
end Go.Am
