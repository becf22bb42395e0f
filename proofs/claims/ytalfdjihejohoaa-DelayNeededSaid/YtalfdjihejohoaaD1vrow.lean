/- Own text: D1vrow. -/
import Derived.Test.YtalfdjihejohoaaD1row
set_option maxRecDepth 100000
namespace Go.Proofs.Ytalfdjihejohoaa
open Go Go.Am Go.ChangeShapes Go.RowKit
theorem cells40 : Program.cellsOf Try.prog 40 = 3 := by kernel_rfl
theorem rdSta : Rd Try.prog 40 (fun s : Sta => [I s.1, I s.2.1, I s.2.2]) (fun s => (-9223372036854775808 ≤ s.1 ∧ s.1 < 9223372036854775808) ∧ (-9223372036854775808 ≤ s.2.1 ∧ s.2.1 < 9223372036854775808) ∧ -9223372036854775808 ≤ s.2.2 ∧ s.2.2 < 9223372036854775808) := by
  refine (Rd.array Try.underlying40 rdI (by rw [cells40, cells3])).map (fun l => (l.getD 0 0, l.getD 1 0, l.getD 2 0)) ?_ ?_
  · rintro l ⟨hl, _⟩
    match l, hl with
    | [a, b, c], _ => rfl
  · rintro l ⟨hl, h⟩
    match l, hl with
    | [a, b, c], _ => exact ⟨h a (by simp), h b (by simp), h c (by simp)⟩
theorem rdStas : Rd Try.prog 32 (fun l : List Sta => [.list 3 (l.map dSta)]) (fun l => l.length ≤ maxLen) := by
  refine (Rd.slice Try.underlying32 rdSta dSta (fun _ _ => rfl) (by rw [cells40]; decide)).map id (fun l _ => ?_) (fun l h => h.1)
  rw [cells40]; rfl
end Go.Proofs.Ytalfdjihejohoaa
