/- Own text: RRd. -/
import Derived.Test.YtcnplegmmmobcaaAmArgs
import Derived.Test.YtcnplegmmmobcaaRL36
import Derived.Test.YtcnplegmmmobcaaR1T
import Derived.Test.YtcnplegmmmobcaaRows
set_option maxRecDepth 100000
namespace Go.Proofs.Ytcnplegmmmobcaa
open Go Go.Am Go.ChangeShapes Go.RowKit
theorem own : ownKnob Try.prog.godebug = none := by kernel_rfl
theorem laid : laidOutB Try.prog = true := by kernel_rfl
theorem cells3 : Program.cellsOf Try.prog 3 = 1 := by kernel_rfl
theorem cells22 : Program.cellsOf Try.prog 22 = 1 := by kernel_rfl
theorem cells24 : Program.cellsOf Try.prog 24 = 2 := by kernel_rfl
theorem cells66 : Program.cellsOf Try.prog 66 = 3 := by kernel_rfl
def I64 (n : Int) : Prop := -9223372036854775808 ≤ n ∧ n < 9223372036854775808
theorem rdI : Rd Try.prog 3 (fun n => [D.int .i64 n]) I64 :=
  (Rd.int Try.underlying3).map id (fun _ _ => rfl) (fun n h => by have := bounds_i64 h; simp only [id, I64]; omega)
theorem rdStep : Rd Try.prog 66 (fun c : St3 => [.int .i64 c.1, .int .i64 c.2.1, .int .i64 c.2.2]) (fun c => I64 c.1 ∧ I64 c.2.1 ∧ I64 c.2.2) := by
  refine (Rd.struct Try.underlying66 (ts := [3, 3, 3]) (.cons rdI (.cons rdI (.cons rdI .nil))) rfl ?_ ?_).map (fun p => (p.1, p.2.1, p.2.2.1)) (fun _ _ => rfl) (fun _ h => ⟨h.1, h.2.1, h.2.2.1⟩)
  · intro i f hf
    match i, hf with
    | 0, hf => cases hf; rfl
    | 1, hf => cases hf; simp [cells3]
    | 2, hf => cases hf; simp [cells3]
    | i + 3, hf => simp at hf
  · simp [cells66, cells3]
theorem rdSteps : Rd Try.prog 22 (fun l : List St3 => [.list 3 (eSt l)]) (fun l => l.length < Lg) := by
  refine (Rd.slice Try.underlying22 rdStep (fun c => .agg [.int .i64 c.1, .int .i64 c.2.1, .int .i64 c.2.2]) (fun _ _ => rfl) (by rw [cells66]; decide)).map id (fun l _ => ?_) (fun l h => by have := h.1; simp only [maxLen] at this; exact (by omega : l.length < 9223372036854775808))
  rw [cells66]
  simp [enc, cG, lc, l1, cI]
theorem rdSys : Rd Try.prog 24 (fun s : Int × List St3 => [.int .i64 s.1, .list 3 (eSt s.2)]) (fun s => I64 s.1 ∧ s.2.length < Lg) := by
  refine (Rd.struct Try.underlying24 (ts := [3, 22]) (.cons rdI (.cons rdSteps .nil)) rfl ?_ ?_).map (fun p => (p.1, p.2.1)) (fun _ _ => rfl) (fun _ h => ⟨h.1, h.2.1⟩)
  · intro i f hf
    match i, hf with
    | 0, hf => cases hf; rfl
    | 1, hf => cases hf; simp [cells3]
    | i + 2, hf => simp at hf
  · simp [cells24, cells3, cells22]
end Go.Proofs.Ytcnplegmmmobcaa
