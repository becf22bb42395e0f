import Derived.Test.YtlljehkmemajkaaGreatAmArgs
import Derived.Test.YtlljehkmemajkaaGreatND22
import Derived.Test.YtlljehkmemajkaaGreatN1T
import Derived.Test.YtlljehkmemajkaaGreatRows
set_option maxRecDepth 100000
namespace Go.Proofs.YtlljehkmemajkaaGreat
open Go Go.Am Go.ChangeShapes Go.RowKit
theorem own:ownKnob Tryz.prog.godebug=none:=by kernel_rfl
theorem laid:laidOutB Tryz.prog=true:=by kernel_rfl
theorem b0d:Program.cellsOf Tryz.prog 57=2:=by kernel_rfl
theorem b4Q:Program.cellsOf Tryz.prog 54=1:=by kernel_rfl
theorem cells3:Program.cellsOf Tryz.prog 3=1:=by kernel_rfl
theorem c1O:Program.cellsOf Tryz.prog 4=1:=by kernel_rfl
theorem rdI:Rd Tryz.prog 3 (fun n=>[D.int .i64 n]) (fun n => -9223372036854775808<=n/\n<9223372036854775808) :=
 (Rd.int Tryz.underlying3).map id (fun _ _=>rfl) (fun n h=>by have:=bounds_i64 h;simp only [id];omega)
theorem c5B:Rd Tryz.prog 4 (fun b=>[D.bool b]) (fun _=>True):=Rd.bool Tryz.underlying4
def dAc (a:Int×Bool):D := .agg [.int .i64 a.1,.bool a.2]
def c3O (l:List (Int×Bool)):D := .list 2 (eAs l)
theorem c5C:Rd Tryz.prog 57 (fun a:Int×Bool=>[.int .i64 a.1,.bool a.2]) (fun _=>True):=by
 refine (Rd.struct Tryz.underlying57 (ts:=[3,4]) (.cons rdI (.cons c5B .nil)) rfl ?_ ?_).map (fun p=>(p.1,p.2.1)) (fun _ _=>rfl) (fun _ _=>trivial)
 ·intro i f hf
  match i,hf with
  | 0,hf=>cases hf;rfl
  | 1,hf=>cases hf;simp [cells3]
  | i+2,hf=>simp at hf
 simp [b0d,cells3,c1O]
theorem c3P:Rd Tryz.prog 54 (fun l:List (Int×Bool)=>[c3O l]) (fun l=>l.length<=maxLen):=by
 refine (Rd.slice Tryz.underlying54 c5C dAc (fun _ _=>rfl) (by rw [b0d];decide)).map id (fun l _ => ?_) (fun l h=>h.1);rw [b0d];rfl
theorem rdX:Rd Tryz.prog 22 (fun x:Ax=>[D.list 1 (eA x)]) (fun x=>x.length<=maxLen /\ ∀ t∈x,t.length<=maxLen):=by
 refine (Rd.slice Tryz.underlying22 c3P c3O (fun _ _=>rfl) (by rw [b4Q];decide)).map id (fun l _ => ?_) (fun l h=>h);rw [b4Q];show [D.list 1 ((l.map (enc cAc)).map _)]=[D.list 1 (l.map c3O)];rw [List.map_map];rfl
theorem c3Q:maxLen<9223372036854775808:=by decide +kernel
theorem b4R:Program.cellsOf Tryz.prog 42=1:=by kernel_rfl
theorem c1P:Rd Tryz.prog 42 (fun l:List Int=>[D.list 1 (a1f l)]) (fun l=>l.length<=maxLen):=by
 refine (Rd.slice Tryz.underlying42 rdI (fun n => .int .i64 n) (fun _ _=>rfl) (by rw [cells3];decide)).map id (fun l _ => ?_) (fun l h=>h.1);rw [cells3];rfl
theorem rdC:Rd Tryz.prog 32 (fun c:List (List Int)=>[D.list 1 (a1d c)]) (fun c=>c.length<=maxLen /\ ∀ r∈c,r.length<=maxLen):=by
 refine (Rd.slice Tryz.underlying32 c1P (fun l => .list 1 (a1f l)) (fun _ _=>rfl) (by rw [b4R];decide)).map id (fun l _ => ?_) (fun l h=>h);rw [b4R];show [D.list 1 ((l.map (Go.Am.enc (cI .i64))).map _)]=[D.list 1 (l.map _)];rw [List.map_map];rfl
end Go.Proofs.YtlljehkmemajkaaGreat
