/- Own text: D1frow. -/
import Derived.Test.YtalfdjihejohoaaAmArgs
import Derived.Test.YtalfdjihejohoaaD1r
import Derived.Test.YtalfdjihejohoaaRows
import Derived.Test.YtalfdjihejohoaaD1ga
set_option maxRecDepth 100000
namespace Go.Proofs.Ytalfdjihejohoaa
open Go Go.Am Go.ChangeShapes Go.RowKit
theorem own:ownKnob Try.prog.godebug=none:=by kernel_rfl
theorem laid:laidOutB Try.prog=true:=by kernel_rfl
theorem cells76:Program.cellsOf Try.prog 76=2:=by kernel_rfl
theorem cells25:Program.cellsOf Try.prog 25=1:=by kernel_rfl
theorem cells3:Program.cellsOf Try.prog 3=1:=by kernel_rfl
theorem cells4:Program.cellsOf Try.prog 4=1:=by kernel_rfl
theorem rdAcc:Rd Try.prog 76 (fun a:Acc=>[I a.1,.bool a.2]) (fun _=>True):=by
 refine (Rd.struct Try.underlying76 (ts:=[3,4]) (.cons (.int Try.underlying3) (.cons (.bool Try.underlying4) .nil)) rfl ?_ ?_).map (fun p=>(p.1,p.2.1)) (fun _ _=>rfl) (fun _ _=>trivial)
 ·intro i f hf
  match i,hf with
  | 0,hf=>cases hf;rfl
  | 1,hf=>cases hf;simp [cells3]
  | i+2,hf=>simp at hf
 ·simp [cells76,cells3,cells4]
theorem rdAccs:Rd Try.prog 25 (fun l:List Acc=>[dAccs l]) (fun l=>l.length<=maxLen):=by
 refine (Rd.slice Try.underlying25 rdAcc dAcc (fun _ _=>rfl) (by rw [cells76];decide)).map id (fun l _ => ?_) (fun l h=>h.1)
 rw [cells76];rfl
theorem rdX:Rd Try.prog 22 (fun x:List (List Acc)=>[dX x]) Big:=by
 refine (Rd.slice Try.underlying22 rdAccs dAccs (fun _ _=>rfl) (by rw [cells25];decide)).map id (fun l _ => ?_) (fun l h=>h)
 rw [cells25];rfl
theorem rdI:Rd Try.prog 3 (fun n=>[D.int .i64 n]) (fun n => -9223372036854775808<=n/\n<9223372036854775808) :=
 (Rd.int Try.underlying3).map id (fun _ _=>rfl) (fun n h=>by have:=bounds_i64 h;simp only [id];omega)
end Go.Proofs.Ytalfdjihejohoaa

namespace Go.Proofs.Ytalfdjihejohoaa
open Go Go.Am Go.ChangeShapes Go.RowKit
end Go.Proofs.Ytalfdjihejohoaa

namespace Go.Proofs.Ytalfdjihejohoaa
open Go Go.Am Go.ChangeShapes Go.RowKit
theorem cells55:Program.cellsOf Try.prog 55=1:=by kernel_rfl
theorem cells118:Program.cellsOf Try.prog 118=2:=by kernel_rfl
theorem rdRow:Rd Try.prog 55 (fun l:List Int=>[dRow l]) (fun l=>l.length<=maxLen):=by
 refine (Rd.slice Try.underlying55 rdI (.int .i64) (fun _ _=>rfl) (by rw [cells3];decide)).map id (fun l _ => ?_) (fun l h=>h.1)
 rw [cells3];rfl
theorem rdCost:Rd Try.prog 48 (fun c:List (List Int)=>[dCost c]) (fun c=>c.length<=maxLen /\ ∀ r∈c,r.length<=maxLen):=by
 refine (Rd.slice Try.underlying48 rdRow dRow (fun _ _=>rfl) (by rw [cells55];decide)).map id (fun l _ => ?_) (fun l h=>h)
 rw [cells55];rfl
theorem rdFen:Rd Try.prog 118 (fun f:Fen=>[I f.1,I f.2]) (fun _=>True):=by
 refine (Rd.array Try.underlying118 rdI (by rw [cells118,cells3])).map (fun l=>(l.getD 0 0,l.getD 1 0)) ?_ ?_
 ·rintro l ⟨hl,_⟩
  match l,hl with
  | [a,b],_=>rfl
 ·intros;trivial
theorem rdFens:Rd Try.prog 49 (fun l:List Fen=>[.list 2 (l.map dFen)]) (fun l=>l.length<=maxLen):=by
 refine (Rd.slice Try.underlying49 rdFen dFen (fun _ _=>rfl) (by rw [cells118];decide)).map id (fun l _ => ?_) (fun l h=>h.1)
 rw [cells118];rfl
end Go.Proofs.Ytalfdjihejohoaa
