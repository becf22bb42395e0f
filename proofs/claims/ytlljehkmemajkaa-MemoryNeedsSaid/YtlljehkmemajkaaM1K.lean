import Derived.Test.YtlljehkmemajkaaAmKeys
import Derived.Test.YtlljehkmemajkaaProg
set_option maxRecDepth 100000
namespace Go.Proofs
end Go.Proofs
