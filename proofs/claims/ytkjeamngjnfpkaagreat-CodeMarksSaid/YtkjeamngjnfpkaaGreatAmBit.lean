/- Own text: AmBit. -/
import Derived.Test.YtkjeamngjnfpkaaGreatAmLaw
set_option linter.unusedSimpArgs false
namespace Go.Am
open Go
def ins (m i:Nat):Nat:=m ||| 2 ^ i
end Go.Am
