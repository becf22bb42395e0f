/- Own text: ZH9. -/
import Derived.Test.YtkjeamngjnfpkaaGreatZH3
import Derived.Test.YtkjeamngjnfpkaaGreatAmBit
set_option maxRecDepth 100000
set_option linter.unusedVariables false
set_option linter.unusedSimpArgs false
namespace Go.Am
open Go
def spOf (S:List Spec) (c:Call):Spec:=S.getD c.ob.toNat (0,0,[],[])
def nowOf (c:Call) (s:Int×Int):Int:=bif decide (c.ob=0) then s.1 else s.2
def doS (S:List Spec) (c:Call) (s:Int×Int):Int×Int:=bif decide (c.ob=0) then (nx (spOf S c).2.2.1 (nowOf c s) c.op,s.2) else (s.1,nx (spOf S c).2.2.1 (nowOf c s) c.op)
def okS (S:List Spec) (c:Call) (s:Int×Int):Bool:=decide (c.to=0)||decide (nx (spOf S c).2.2.2 (nowOf c s) c.op=c.sa)
section
variable (S:List Spec) (h:List Call) (must:Call→Call→Bool)
def endsM (m:Nat):Bool := !(List.range h.length).any fun i=>(h[i]?.map fun c=>decide (0<c.to) && !m.testBit i).getD false
def freeM (m i:Nat) (c:Call):Bool := !m.testBit i&&(List.range h.length).all fun k=>m.testBit k||(h[k]?.map fun d => !must d c).getD true
def nextM (m:Nat) (s:Int×Int) (i:Nat):Option (Nat×Int×Int):=h[i]?.bind fun c=>bif freeM h must m i c&&okS S c s then some (ins m i,doS S c s) else none
def dfs:Nat→Nat→Int×Int→List (List Nat)
 | 0,m,s=>bif endsM h m then [[]] else []
 | f+1,m,s=>(bif endsM h m then [[]] else [])++(List.range h.length).flatMap fun i=>((nextM S h must m s i).map fun p=>(dfs f p.1 p.2).map (i :: ·)).getD []
def room (m:Nat):Nat:=(List.range h.length).countP fun i => !m.testBit i
def ords (m:Nat) (s:Int×Int):List (List Nat):=dfs S h must (room h m) m s
end
end Go.Am

set_option maxRecDepth 100000
set_option linter.unusedVariables false
set_option linter.unusedSimpArgs false
namespace Go.Am
open Go
def keyP (m:Nat) (s:Int×Int):D := .agg [.int .u8 m,.int .i64 s.1,.int .i64 s.2]
theorem keyP_inj {m m':Nat} {s s':Int×Int} (h:keyP m s=keyP m' s'):m=m'∧s=s':=by
 simp only [keyP,D.agg.injEq,List.cons.injEq,D.int.injEq,true_and,and_true] at h
 exact ⟨by omega,Prod.ext h.2.1 h.2.2⟩
def GoodM (S:List Spec) (h:List Call) (must:Call→Call→Bool) (mp:List (D×D)):Prop := ∀ (m:Nat) (s:Int×Int) (v:D),Am.mget mp (keyP m s)=some v→v = .int .i64 ((ords S h must m s).length:Int)
theorem GoodM.nil (S:List Spec) (h:List Call) (must:Call→Call→Bool):GoodM S h must []:=fun m s v hv=>by simp [Am.mget] at hv
theorem GoodM.put {S:List Spec} {h:List Call} {must:Call→Call→Bool} {mp:List (D×D)} (hg:GoodM S h must mp) (m:Nat) (s:Int×Int):GoodM S h must (Am.mput mp (keyP m s) (.int .i64 ((ords S h must m s).length:Int))):=by
 intro m' s' v hv
 rw [mget_mput] at hv
 split at hv
 ·rename_i e
  obtain ⟨rfl,rfl⟩:=keyP_inj e
  exact (Option.some.inj hv).symm
 ·exact hg m' s' v hv
section
variable {S:List Spec} {h:List Call}
end
section
variable {S:List Spec} {h:List Call}
end
end Go.Am

set_option maxRecDepth 100000
set_option linter.unusedVariables false
set_option linter.unusedSimpArgs false
namespace Go.Am
open Go
section
variable {S:List Spec} {h:List Call}
end
end Go.Am

set_option maxRecDepth 100000
set_option linter.unusedVariables false
set_option linter.unusedSimpArgs false
namespace Go.Am
open Go
def hc (h:List Call) (x:Int):Call:=h.getD x.toNat (0,0,0,0,0,0)
section
variable {h:List Call} (hl:h.length≤40)
include hl
end
end Go.Am

set_option maxRecDepth 100000
set_option linter.unusedVariables false
set_option linter.unusedSimpArgs false
namespace Go.Am
open Go
def cN (l:List Nat):List Int:=l.map (fun i:Nat=>(i:Int))
structure MustOk (must:Call→Call→Bool) (h:List Call):Prop where
 ret : ∀ c∈h,∀ d∈h,must c d=true→0<c.to
 irr : ∀ c∈h,must c c=false
section
variable {S:List Spec} {h:List Call} {must:Call→Call→Bool}
def dead (must:Call→Call→Bool) (h:List Call) (m:Nat):Prop := ∃ (k i:Nat) (c d:Call),h[k]?=some c∧h[i]?=some d∧m.testBit i=true∧m.testBit k=false∧0<c.to∧must c d=true
end
end Go.Am

set_option maxRecDepth 100000
set_option linter.unusedVariables false
set_option linter.unusedSimpArgs false
namespace Go.Am
open Go
section
variable (S:List Spec) (h:List Call) (hs:SpecsOk S) (hl:h.length<Lg)
include hs hl
end
end Go.Am
