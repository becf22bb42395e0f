import Derived.Test.YtkjeamngjnfpkaaGreatZH12
set_option maxRecDepth 100000
set_option linter.unusedVariables false
set_option linter.unusedSimpArgs false
namespace Go.Am
open Go
def und (m:Int) (d:Call):Bool:=decide (d.fr<=m)&&(decide (d.to=0)||decide (m<=d.to))
def many (h:List Call) (m:Int):Nat:=(h.filter (und m)).length
section
variable {h:List Call}
end
section
variable {S:List Spec} {h:List Call} {must:Call->Call->Bool}
end
def c1T (S:List Spec) (c:Call):Bool:=decide (c.sa=0)&&(decide (c.fr=0)&&(decide (c.to=0)&&(btw 0 c.ob ((S.length:Int)-1)&&(btw 0 c.op ((b6m S c).2.1-1)&&btw 0 c.th 3))))
section
variable (S:List Spec) (w:List Call) (hs:a1Y S) (hw:w.length<Lg)
include hs hw
end
end Go.Am
namespace Go.Am
section
variable (S:List Spec) (w:List Call) (hs:a1Y S) (hw:w.length<Lg)
include hs hw
end
section
variable {S:List Spec}
section
variable {w:List Call} (ha:a6Y S=true) (h8:w.length<=8) (hp:w.all (c1T S)=true)
include ha h8 hp
end
end
def alw (S:List Spec):List Call->Int×Int->Bool
 | [],_=>true
 | c::L,s=>okS S c s&&alw S L (doS S c s)
structure LinC (S:List Spec) (h L:List Call):Prop where
 nd:L.Nodup
 sub : ∀ c∈L,c∈h
 full : ∀ c∈h,c.to≠0->c∈L
 keep:L.Pairwise fun y x=>bef x y=false
 allow:alw S L (0,0)=true
set_option linter.unusedSectionVars false
section
variable {τ ρ:Type} {c:Cod τ} {l:List D}
end
section
variable {h:List Call} (hl:h.length<Lg) {i b e:Int}
include hl
end
section
variable {h:List Call}
end
end Go.Am
