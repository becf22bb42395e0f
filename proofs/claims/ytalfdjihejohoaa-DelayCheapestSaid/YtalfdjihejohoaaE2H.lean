/- Own text: E2H. -/
import Derived.Test.YtalfdjihejohoaaE1H
import Derived.Test.YtalfdjihejohoaaD1fh
import Derived.Test.YtalfdjihejohoaaD1ga
set_option maxRecDepth 100000
set_option linter.unusedVariables false
set_option linter.unusedSimpArgs false
set_option linter.unusedSectionVars false
namespace Go.Am
open Go Go.Proofs
noncomputable abbrev ofP (l:List D):Option (List Sta):=dec dSta (LenOk 1000000000) l
noncomputable def E27 (A:Ar) (x1:List D):Option (List D×Int):=(ofX x1).map fun x=>if valid x then ((neededL x).map dSta,0) else ([],90)
noncomputable def E83 (A:Ar) (x1:List D):Option (List D):=(dec dAccs (fun x=>valid x=true) x1).map fun x=>(neededL x).map dSta
noncomputable def E92 (A:Ar) (x1 x2:List D):Option Bool:=(ofF x1).bind fun l=>(ofP x2).map fun p=>enoughF l p
open Classical in
noncomputable def E95 (A:Ar) (x1 x2:List D):Option Int:=(ofC x1).bind fun c=>(ofF x2).bind fun l=>if (∀ r∈c,∀ n∈r,0<=n/\n<=9)/\(∀ f∈l,inCost c f) then some (costF c l) else none
theorem valid_smE {x:List (List Acc)} (hv:valid x=true):Small x/\(stations x).length<=4000000000:=by
 have:=stations_48 hv
 exact ⟨valid_small hv,by omega⟩
section
variable {A:Ar} (hA:A=Ar.std) {x1 x2:List D}
include hA
theorem E27w {v9:List D} {v10:Int} (h:E27 A x1=some (v9,v10)):ACall Try.prog 27 [(.d (.list 1 x1))] [] (.tuple [(.d (.list 3 v9)),(.d (.int .i64 v10))]) []:=by
 obtain ⟨x,hx,e⟩:=Option.map_eq_some_iff.1 h
 obtain ⟨hb,rfl⟩:=decI hx
 have:=Needed_ok x hb fun hv=>valid_smE hv
 cases hv:valid x <;> simp only [hv,if_true,if_false,Bool.false_eq_true] at e this <;> cases e <;> exact this
end
end Go.Am
