/- Own text: HRd. -/
import Derived.Test.YtlpolnmadfmphaaAmArgs
import Derived.Test.YtlpolnmadfmphaaHL1
import Derived.Test.YtlpolnmadfmphaaH1T
import Derived.Test.YtlpolnmadfmphaaRows
set_option maxRecDepth 100000
namespace Go.Proofs.Ytlpolnmadfmphaa
open Go Go.Am Go.ChangeShapes Go.RowKit
theorem own : ownKnob Try.prog.godebug = none := by kernel_rfl
theorem laid : laidOutB Try.prog = true := by kernel_rfl
theorem cells3 : Program.cellsOf Try.prog 3 = 1 := by kernel_rfl
theorem cells50 : Program.cellsOf Try.prog 50 = 6 := by kernel_rfl
def I64 (n : Int) : Prop := -9223372036854775808 ≤ n ∧ n < 9223372036854775808
theorem rdI : Rd Try.prog 3 (fun n => [D.int .i64 n]) I64 :=
  (Rd.int Try.underlying3).map id (fun _ _ => rfl) (fun n h => by have := bounds_i64 h; simp only [id, I64]; omega)
theorem rdCall : Rd Try.prog 50 (fun c : Go.Am.Call => [.int .i64 c.1, .int .i64 c.2.1, .int .i64 c.2.2.1, .int .i64 c.2.2.2.1, .int .i64 c.2.2.2.2.1, .int .i64 c.2.2.2.2.2]) (fun c => I64 c.1 ∧ I64 c.2.1 ∧ I64 c.2.2.1 ∧ I64 c.2.2.2.1 ∧ I64 c.2.2.2.2.1 ∧ I64 c.2.2.2.2.2) := by
  refine (Rd.struct Try.underlying50 (ts := [3, 3, 3, 3, 3, 3]) (.cons rdI (.cons rdI (.cons rdI (.cons rdI (.cons rdI (.cons rdI .nil)))))) rfl ?_ ?_).map (fun p => (p.1, p.2.1, p.2.2.1, p.2.2.2.1, p.2.2.2.2.1, p.2.2.2.2.2.1)) (fun _ _ => rfl) (fun _ h => ⟨h.1, h.2.1, h.2.2.1, h.2.2.2.1, h.2.2.2.2.1, h.2.2.2.2.2.1⟩)
  · intro i f hf
    match i, hf with
    | 0, hf => cases hf; rfl
    | 1, hf => cases hf; simp [cells3]
    | 2, hf => cases hf; simp [cells3]
    | 3, hf => cases hf; simp [cells3]
    | 4, hf => cases hf; simp [cells3]
    | 5, hf => cases hf; simp [cells3]
    | i + 6, hf => simp at hf
  · simp [cells50, cells3]
def CallI (c : Go.Am.Call) : Prop := I64 c.1 ∧ I64 c.2.1 ∧ I64 c.2.2.1 ∧ I64 c.2.2.2.1 ∧ I64 c.2.2.2.2.1 ∧ I64 c.2.2.2.2.2
theorem rdCalls : Rd Try.prog 23 (fun l : List Go.Am.Call => [.list 6 (eCalls l)]) (fun l => l.length < Lg ∧ ∀ c ∈ l, CallI c) := by
  refine (Rd.slice Try.underlying23 rdCall (fun c => .agg [.int .i64 c.1, .int .i64 c.2.1, .int .i64 c.2.2.1, .int .i64 c.2.2.2.1, .int .i64 c.2.2.2.2.1, .int .i64 c.2.2.2.2.2]) (fun _ _ => rfl) (by rw [cells50]; decide)).map id (fun l _ => ?_) (fun l h => ⟨by have := h.1; simp only [maxLen] at this; exact (by omega : l.length < 9223372036854775808), h.2⟩)
  rw [cells50]
  simp [eCalls, enc, cCall, cG, lc, l1, cI]
end Go.Proofs.Ytlpolnmadfmphaa
