import Derived.Test.YtlljehkmemajkaaAmArgs
import Derived.Test.YtlljehkmemajkaaML15
import Derived.Test.YtlljehkmemajkaaM1T
import Derived.Test.YtlljehkmemajkaaRows
set_option maxRecDepth 100000
namespace Go.Proofs.Ytlljehkmemajkaa
open Go Go.Am Go.ChangeShapes Go.RowKit
theorem own:ownKnob Try.prog.godebug=none:=by kernel_rfl
theorem laid:laidOutB Try.prog=true:=by kernel_rfl
theorem b0n:Program.cellsOf Try.prog 63=3:=by kernel_rfl
theorem b4F:Program.cellsOf Try.prog 46=1:=by kernel_rfl
theorem cells3:Program.cellsOf Try.prog 3=1:=by kernel_rfl
theorem rdI:Rd Try.prog 3 (fun n=>[D.int .i64 n]) (fun n => -9223372036854775808<=n/\n<9223372036854775808) :=
 (Rd.int Try.underlying3).map id (fun _ _=>rfl) (fun n h=>by have:=bounds_i64 h;simp only [id];omega)
def c3q (a:Ac):D := .agg [.int .i64 a.1,.int .i64 a.2.1,.int .i64 a.2.2]
def b8C (l:List Ac):D := .list 3 (eT l)
theorem c2n:Rd Try.prog 63 (fun a:Ac=>[.int .i64 a.1,.int .i64 a.2.1,.int .i64 a.2.2]) (fun _=>True):=by
 refine (Rd.struct Try.underlying63 (ts:=[3,3,3]) (.cons rdI (.cons rdI (.cons rdI .nil))) rfl ?_ ?_).map (fun p=>(p.1,p.2.1,p.2.2.1)) (fun _ _=>rfl) (fun _ _=>trivial)
 ·intro i f hf
  match i,hf with
  | 0,hf=>cases hf;rfl
  | 1,hf=>cases hf;simp [cells3]
  | 2,hf=>cases hf;simp [cells3]
  | i+3,hf=>simp at hf
 simp [b0n,cells3]
theorem c0J:Rd Try.prog 46 (fun l:List Ac=>[b8C l]) (fun l=>l.length<=maxLen):=by
 refine (Rd.slice Try.underlying46 c2n c3q (fun _ _=>rfl) (by rw [b0n];decide)).map id (fun l _ => ?_) (fun l h=>h.1);rw [b0n];rfl
theorem rdP:Rd Try.prog 22 (fun P:Pg=>[D.list 1 (eP P)]) (fun P=>P.length<=maxLen /\ ∀ t∈P,t.length<=maxLen):=by
 refine (Rd.slice Try.underlying22 c0J b8C (fun _ _=>rfl) (by rw [b4F];decide)).map id (fun l _ => ?_) (fun l h=>h);rw [b4F];show [D.list 1 ((l.map (enc cA3)).map _)]=[D.list 1 (l.map b8C)];rw [List.map_map];rfl
theorem c2B:maxLen<9223372036854775808:=by decide +kernel
theorem okP {P:Pg} (k:P.length<=maxLen /\ ∀ t∈P,t.length<=maxLen):P.length<9223372036854775808 /\ ∀ t∈P,t.length<9223372036854775808 :=
 ⟨Nat.lt_of_le_of_lt k.1 c2B,fun t ht=>Nat.lt_of_le_of_lt (k.2 t ht) c2B⟩
end Go.Proofs.Ytlljehkmemajkaa
