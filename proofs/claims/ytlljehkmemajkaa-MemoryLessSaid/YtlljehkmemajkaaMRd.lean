import Derived.Test.YtlljehkmemajkaaAmArgs
import Derived.Test.YtlljehkmemajkaaML15
import Derived.Test.YtlljehkmemajkaaM1T
import Derived.Test.YtlljehkmemajkaaRows
set_option maxRecDepth 100000
namespace Go.Proofs.Ytlljehkmemajkaa
open Go Go.Am Go.ChangeShapes Go.RowKit
theorem own:ownKnob Try.prog.godebug=none:=by kernel_rfl
theorem laid:laidOutB Try.prog=true:=by kernel_rfl
theorem a8W:Program.cellsOf Try.prog 63=3:=by kernel_rfl
theorem b2K:Program.cellsOf Try.prog 46=1:=by kernel_rfl
theorem cells3:Program.cellsOf Try.prog 3=1:=by kernel_rfl
theorem rdI:Rd Try.prog 3 (fun n=>[D.int .i64 n]) (fun n => -9223372036854775808<=n/\n<9223372036854775808) :=
 (Rd.int Try.underlying3).map id (fun _ _=>rfl) (fun n h=>by have:=bounds_i64 h;simp only [id];omega)
def c0k (a:Ac):D := .agg [.int .i64 a.1,.int .i64 a.2.1,.int .i64 a.2.2]
def b5Z (l:List Ac):D := .list 3 (eT l)
theorem b9n:Rd Try.prog 63 (fun a:Ac=>[.int .i64 a.1,.int .i64 a.2.1,.int .i64 a.2.2]) (fun _=>True):=by
 refine (Rd.struct Try.underlying63 (ts:=[3,3,3]) (.cons rdI (.cons rdI (.cons rdI .nil))) rfl ?_ ?_).map (fun p=>(p.1,p.2.1,p.2.2.1)) (fun _ _=>rfl) (fun _ _=>trivial)
 ·intro i f hf
  match i,hf with
  | 0,hf=>cases hf;rfl
  | 1,hf=>cases hf;simp [cells3]
  | 2,hf=>cases hf;simp [cells3]
  | i+3,hf=>simp at hf
 simp [a8W,cells3]
theorem b7S:Rd Try.prog 46 (fun l:List Ac=>[b5Z l]) (fun l=>l.length<=maxLen):=by
 refine (Rd.slice Try.underlying46 b9n c0k (fun _ _=>rfl) (by rw [a8W];decide)).map id (fun l _ => ?_) (fun l h=>h.1);rw [a8W];rfl
theorem rdP:Rd Try.prog 22 (fun P:Pg=>[D.list 1 (eP P)]) (fun P=>P.length<=maxLen /\ ∀ t∈P,t.length<=maxLen):=by
 refine (Rd.slice Try.underlying22 b7S b5Z (fun _ _=>rfl) (by rw [b2K];decide)).map id (fun l _ => ?_) (fun l h=>h);rw [b2K];show [D.list 1 ((l.map (enc cA3)).map _)]=[D.list 1 (l.map b5Z)];rw [List.map_map];rfl
theorem b9x:maxLen<9223372036854775808:=by decide +kernel
theorem okP {P:Pg} (k:P.length<=maxLen /\ ∀ t∈P,t.length<=maxLen):P.length<9223372036854775808 /\ ∀ t∈P,t.length<9223372036854775808 :=
 ⟨Nat.lt_of_le_of_lt k.1 b9x,fun t ht=>Nat.lt_of_le_of_lt (k.2 t ht) b9x⟩
theorem cells5:Program.cellsOf Try.prog 5=1:=by kernel_rfl
theorem rdB:Rd Try.prog 5 (fun n=>[D.int .u8 n]) (fun n=>0<=n/\n<256) :=
 (Rd.int Try.underlying5).map id (fun _ _=>rfl) (fun n h=>by have:=bounds_u8 h;simp only [id];omega)
theorem b6a:Program.cellsOf Try.prog 48=2:=by kernel_rfl
theorem c0l:Rd Try.prog 48 (fun a:Int×Int=>[.int .u8 a.1,.int .u8 a.2]) (fun a=>(0<=a.1/\a.1<256)/\0<=a.2/\a.2<256):=by
 refine (Rd.array Try.underlying48 rdB (by rw [b6a,cells5])).map (fun l=>(l.getD 0 0,l.getD 1 0)) ?_ ?_
 ·rintro l ⟨hl,_⟩
  match l,hl with
  | [a,b],_=>rfl
 rintro l ⟨hl,h⟩
 match l,hl with
 | [a,b],_=>exact ⟨h a (by simp),h b (by simp)⟩
end Go.Proofs.Ytlljehkmemajkaa
