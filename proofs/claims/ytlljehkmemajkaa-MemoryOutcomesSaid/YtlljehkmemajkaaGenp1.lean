import Derived.Test.YtlljehkmemajkaaGenp0
set_option maxRecDepth 100000
set_option maxHeartbeats 2000000
set_option linter.unusedVariables false
set_option linter.unusedSimpArgs false
namespace Go.Am
noncomputable section
open Go
/-- lineal lineallaw04.MemoryOutcomes -/
def M3 (A:Ar) (a:List D) (b:Int) (c:List D):Option (Bool) := (( (M17 A a).bind fun s => bif s then some true else some (A.zlt 60 (A.len c)):Option (Bool))).bind fun v => bif v then (M18 A).bind fun d => some d else (M19 A a b).bind fun (e,g) => (M20 A a b).bind fun (i,j) => (M21 A a b c).bind fun (k,l) => (M22 A a b c).bind fun (m,n) => (( (M23 A a).bind fun o => (M24 A a).bind fun p => bif (A.beq o p) then (M25 A e i).bind fun q => bif q then bif (A.zeq g j) then bif (A.beq k m) then bif (A.zeq l n) then (M18 A).bind fun r => some r else some false else some false else some false else some false else some false:Option (Bool))).bind fun u => some u
end
end Go.Am
