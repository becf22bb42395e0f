import Derived.Test.YtlljehkmemajkaaGreatAmArgs
import Derived.Test.YtlljehkmemajkaaGreatND12
import Derived.Test.YtlljehkmemajkaaGreatN1T
import Derived.Test.YtlljehkmemajkaaGreatRows
set_option maxRecDepth 100000
namespace Go.Proofs.YtlljehkmemajkaaGreat
open Go Go.Am Go.ChangeShapes Go.RowKit
theorem own:ownKnob Tryz.prog.godebug=none:=by kernel_rfl
theorem laid:laidOutB Tryz.prog=true:=by kernel_rfl
theorem a9A:Program.cellsOf Tryz.prog 57=2:=by kernel_rfl
theorem b3w:Program.cellsOf Tryz.prog 54=1:=by kernel_rfl
theorem a9B:Program.cellsOf Tryz.prog 71=2:=by kernel_rfl
theorem cells3:Program.cellsOf Tryz.prog 3=1:=by kernel_rfl
theorem b9j:Program.cellsOf Tryz.prog 4=1:=by kernel_rfl
theorem rdI:Rd Tryz.prog 3 (fun n=>[D.int .i64 n]) (fun n => -9223372036854775808<=n/\n<9223372036854775808) :=
 (Rd.int Tryz.underlying3).map id (fun _ _=>rfl) (fun n h=>by have:=bounds_i64 h;simp only [id];omega)
theorem c2C:Rd Tryz.prog 4 (fun b=>[D.bool b]) (fun _=>True):=Rd.bool Tryz.underlying4
def dAc (a:Int×Bool):D := .agg [.int .i64 a.1,.bool a.2]
def c1k (l:List (Int×Bool)):D := .list 2 (eAs l)
theorem c2D:Rd Tryz.prog 57 (fun a:Int×Bool=>[.int .i64 a.1,.bool a.2]) (fun _=>True):=by
 refine (Rd.struct Tryz.underlying57 (ts:=[3,4]) (.cons rdI (.cons c2C .nil)) rfl ?_ ?_).map (fun p=>(p.1,p.2.1)) (fun _ _=>rfl) (fun _ _=>trivial)
 ·intro i f hf
  match i,hf with
  | 0,hf=>cases hf;rfl
  | 1,hf=>cases hf;simp [cells3]
  | i+2,hf=>simp at hf
 simp [a9A,cells3,b9j]
theorem c1l:Rd Tryz.prog 54 (fun l:List (Int×Bool)=>[c1k l]) (fun l=>l.length<=maxLen):=by
 refine (Rd.slice Tryz.underlying54 c2D dAc (fun _ _=>rfl) (by rw [a9A];decide)).map id (fun l _ => ?_) (fun l h=>h.1);rw [a9A];rfl
theorem rdX:Rd Tryz.prog 22 (fun x:Ax=>[D.list 1 (eA x)]) (fun x=>x.length<=maxLen /\ ∀ t∈x,t.length<=maxLen):=by
 refine (Rd.slice Tryz.underlying22 c1l c1k (fun _ _=>rfl) (by rw [b3w];decide)).map id (fun l _ => ?_) (fun l h=>h);rw [b3w];show [D.list 1 ((l.map (enc cAc)).map _)]=[D.list 1 (l.map c1k)];rw [List.map_map];rfl
theorem c1B:maxLen<9223372036854775808:=by decide +kernel
theorem c2E:Rd Tryz.prog 71 (fun a:Int×Int=>[.int .i64 a.1,.int .i64 a.2]) (fun _=>True):=by
 refine (Rd.array Tryz.underlying71 rdI (by rw [a9B,cells3])).map (fun l=>(l.getD 0 0,l.getD 1 0)) ?_ (fun _ _=>trivial);rintro l ⟨hl,_⟩
 match l,hl with
 | [a,b],_=>rfl
def dF (a:Int×Int):D := .agg [.int .i64 a.1,.int .i64 a.2]
theorem rdF:Rd Tryz.prog 23 (fun l:List (Int×Int)=>[D.list 2 (eF l)]) (fun l=>l.length<=maxLen):=by
 refine (Rd.slice Tryz.underlying23 c2E dF (fun _ _=>rfl) (by rw [a9B];decide)).map id (fun l _ => ?_) (fun l h=>h.1);rw [a9B];rfl
end Go.Proofs.YtlljehkmemajkaaGreat
