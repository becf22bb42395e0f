import Derived.Test.YtlljehkmemajkaaGreatAmDrn
import Derived.Test.YtlljehkmemajkaaGreatAmSortO
import Derived.Shelf.SlIterI.Sorted
import Derived.Shelf.SortM.Plain
import Derived.Shelf.SortM.SortNone
set_option linter.unusedSimpArgs false
set_option linter.unusedVariables false
namespace Go.Am
open Go Go.Proofs Go.Maps
theorem CallsIn.drawn {F:Fence} {n:Nat} {P:Program} {f:FuncId} {args:Array Value} {w:World} {R:Ending->World->Prop} (h:CallsIn F n P f args w R) (hr : ∀ e w',R e w' -> ∃ v,e = .returned v) :
  CallsIn F n P f args w fun e w'=>R e w'/\w.drawn<=w'.drawn:=by
 refine ⟨h.1,fun cs hc => ?_⟩;obtain ⟨e,w',fr,h1,h2,h3,h4⟩:=h.2 cs hc;obtain ⟨v,rfl⟩:=hr e w' h1;have hs:StepsIn (Machine.fenced P F) P (lone (Frame.enter P f args .normal) cs w) (lone fr cs w'):=h2;exact ⟨_,w',fr,⟨h1,StepsIn.drawn hs⟩,h2,h3,h4⟩
theorem noE {α β:Type} {a r:β} {f:α->β} (h:(none:Option α).elim a f=r):a=r:=h
theorem soE {α β:Type} {a r:β} {x:α} {f:α->β} (h:(some x).elim a f=r):f x=r:=h
end Go.Am
