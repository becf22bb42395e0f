/- Own text: E2H. -/
import Derived.Test.YtalfdjihejohoaaE1H
import Derived.Test.YtalfdjihejohoaaD1fh
import Derived.Test.YtalfdjihejohoaaD1xd
set_option maxRecDepth 100000
set_option linter.unusedVariables false
set_option linter.unusedSimpArgs false
set_option linter.unusedSectionVars false
namespace Go.Am
open Go Go.Proofs
noncomputable abbrev ofP (l:List D):Option (List Sta):=dec dSta (LenOk 1000000000) l
noncomputable abbrev ofW (l:List D):Option (List (List Int)):=dec dRow (LenOk 9223372036854775807) l
noncomputable def E37 (A:Ar) (x1:List D):Option Bool:=(ofW x1).map wideB
noncomputable def E83 (A:Ar) (x1:List D):Option (List D):=(dec dAccs (fun x=>valid x=true) x1).map fun x=>(neededL x).map dSta
noncomputable def E92 (A:Ar) (x1 x2:List D):Option Bool:=(ofF x1).bind fun l=>(ofP x2).map fun p=>enoughF l p
open Classical in
noncomputable def E95 (A:Ar) (x1 x2:List D):Option Int:=(ofC x1).bind fun c=>(ofF x2).bind fun l=>if (∀ r∈c,∀ n∈r,0<=n/\n<=9)/\(∀ f∈l,inCost c f) then some (costF c l) else none
theorem circles_len {x:List (List Acc)} (h:valid x=true):(circles x).length<=112945:=by
 have:=circFrom_length x (stations x) (stations_48 h) 3 []
 unfold circles
 have e:circBound 3=112945:=by decide
 omega
section
variable {A:Ar} (hA:A=Ar.std) {x1 x2:List D}
include hA
theorem E37w {v16:Bool} (h:E37 A x1=some v16):ACall Try.prog 37 [(.d (.list 1 x1))] [] (.d (.bool v16)) []:=by
 obtain ⟨x,hx,rfl⟩:=Option.map_eq_some_iff.1 h
 obtain ⟨hb,rfl⟩:=decI hx
 exact wide_ok x hb
theorem E83w {v168:List D} (h:E83 A x1=some v168):ACall Try.prog 83 [(.d (.list 1 x1))] [] (.own 3 v168) []:=by
 obtain ⟨x,hx,rfl⟩:=Option.map_eq_some_iff.1 h
 obtain ⟨hv,rfl⟩:=decI hx
 have h48:=stations_48 hv
 have hcl:=circles_len hv
 have cc:=neededR_ok x (valid_small hv) (by rw [stationsR_eq];omega) (by rw [stationsR_eq];exact fun s hs=>mem_stations hs) (by rw [circlesR_eq];omega) (by rw [circlesR_eq];exact fun l hl=>(mem_circles_iff.1 hl).2.1)
 rw [neededR_eq] at cc
 exact cc
theorem E92w {v25:Bool} (h:E92 A x1 x2=some v25):ACall Try.prog 92 [(.d (.list 2 x1)),(.d (.list 3 x2))] [] (.d (.bool v25)) []:=by
 obtain ⟨l,hl,h⟩:=Option.bind_eq_some_iff.1 h
 obtain ⟨p,hp,rfl⟩:=Option.map_eq_some_iff.1 h
 obtain ⟨hb,rfl⟩:=decI hl
 obtain ⟨hc,rfl⟩:=decI hp
 exact enoughR_ok l p hb hc
theorem E95w {v35:Int} (h:E95 A x1 x2=some v35):ACall Try.prog 95 [(.d (.list 1 x1)),(.d (.list 2 x2))] [] (.d (.int .i64 v35)) []:=by
 obtain ⟨c,hc,h1⟩:=Option.bind_eq_some_iff.1 h
 obtain ⟨l,hl,h2⟩:=Option.bind_eq_some_iff.1 h1
 clear h h1
 obtain ⟨hb,rfl⟩:=decI hc
 obtain ⟨hk,rfl⟩:=decI hl
 split at h2
 ·rename_i h0;cases h2;exact costR_ok c l h0.1 hk h0.2
 ·cases h2
end
end Go.Am
