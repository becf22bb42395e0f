/- Own text: HRd. -/
import Derived.Test.YtlpolnmadfmphaaAmArgs
import Derived.Test.YtlpolnmadfmphaaHL1
import Derived.Test.YtlpolnmadfmphaaH1T
import Derived.Test.YtlpolnmadfmphaaRows
set_option maxRecDepth 100000
namespace Go.Proofs.Ytlpolnmadfmphaa
open Go Go.Am Go.ChangeShapes Go.RowKit
theorem own : ownKnob Try.prog.godebug = none := by kernel_rfl
theorem laid : laidOutB Try.prog = true := by kernel_rfl
theorem cells3 : Program.cellsOf Try.prog 3 = 1 := by kernel_rfl
theorem cells5 : Program.cellsOf Try.prog 5 = 1 := by kernel_rfl
theorem cells44 : Program.cellsOf Try.prog 44 = 4 := by kernel_rfl
theorem cells45 : Program.cellsOf Try.prog 45 = 1 := by kernel_rfl
theorem cells50 : Program.cellsOf Try.prog 50 = 6 := by kernel_rfl
theorem cells62 : Program.cellsOf Try.prog 62 = 1 := by kernel_rfl
theorem cells64 : Program.cellsOf Try.prog 64 = 4 := by kernel_rfl
def I64 (n : Int) : Prop := -9223372036854775808 ≤ n ∧ n < 9223372036854775808
def U8 (n : Int) : Prop := 0 ≤ n ∧ n < 256
theorem rdI : Rd Try.prog 3 (fun n => [D.int .i64 n]) I64 :=
  (Rd.int Try.underlying3).map id (fun _ _ => rfl) (fun n h => by have := bounds_i64 h; simp only [id, I64]; omega)
theorem rdB : Rd Try.prog 5 (fun n => [D.int .u8 n]) U8 :=
  (Rd.int Try.underlying5).map id (fun _ _ => rfl) (fun n h => by have := bounds_u8 h; simp only [id, U8]; omega)
theorem rdInts : Rd Try.prog 45 (fun l : List Int => [.list 1 (eInts l)]) (fun l => l.length < Lg ∧ ∀ n ∈ l, I64 n) := by
  refine (Rd.slice Try.underlying45 rdI (.int .i64) (fun _ _ => rfl) (by rw [cells3]; decide)).map id (fun l _ => ?_) (fun l h => ⟨by have := h.1; simp only [maxLen] at this; exact (by omega : l.length < 9223372036854775808), h.2⟩)
  rw [cells3]; rfl
theorem rdTab : Rd Try.prog 62 (fun t : Tab => [.list 1 (eTab t)]) TabOk := by
  refine (Rd.slice Try.underlying62 rdInts (fun l => .list 1 (eInts l)) (fun _ _ => rfl) (by rw [cells45]; decide)).map id (fun l _ => ?_) (fun l h => ⟨by have := h.1; simp only [maxLen] at this; exact (by omega : l.length < 9223372036854775808), fun r hr => (h.2 r hr).1⟩)
  rw [cells45]
  show [D.list 1 (eTab l)] = [D.list 1 (l.map fun r => .list 1 (eInts r))]
  simp [eTab, enc, cL]
theorem rdSpec : Rd Try.prog 64 (fun s : Go.Am.Spec => [.int .i64 s.1, .int .i64 s.2.1, .list 1 (eTab s.2.2.1), .list 1 (eTab s.2.2.2)]) (fun s => TabOk s.2.2.1 ∧ TabOk s.2.2.2) := by
  refine (Rd.struct Try.underlying64 (ts := [3, 3, 62, 62]) (.cons rdI (.cons rdI (.cons rdTab (.cons rdTab .nil)))) rfl ?_ ?_).map (fun p => (p.1, p.2.1, p.2.2.1, p.2.2.2.1)) (fun _ _ => rfl) (fun _ h => ⟨h.2.2.1, h.2.2.2.1⟩)
  · intro i f hf
    match i, hf with
    | 0, hf => cases hf; rfl
    | 1, hf => cases hf; simp [cells3]
    | 2, hf => cases hf; simp [cells3]
    | 3, hf => cases hf; simp [cells3, cells62]
    | i + 4, hf => simp at hf
  · simp [cells64, cells3, cells62]
theorem rdSpecs : Rd Try.prog 22 (fun l : List Go.Am.Spec => [.list 4 (eSpecs l)]) SpecsOk := by
  refine (Rd.slice Try.underlying22 rdSpec (fun s => .agg [.int .i64 s.1, .int .i64 s.2.1, .list 1 (eTab s.2.2.1), .list 1 (eTab s.2.2.2)]) (fun _ _ => rfl) (by rw [cells64]; decide)).map id (fun l _ => ?_) (fun l h => ⟨by have := h.1; simp only [maxLen] at this; exact (by omega : l.length < 9223372036854775808), h.2⟩)
  rw [cells64]
  simp [eSpecs, enc, cSpec, cG, lc, l1, cI, cL, eSpec]
theorem rdCall : Rd Try.prog 50 (fun c : Go.Am.Call => [.int .i64 c.1, .int .i64 c.2.1, .int .i64 c.2.2.1, .int .i64 c.2.2.2.1, .int .i64 c.2.2.2.2.1, .int .i64 c.2.2.2.2.2]) (fun c => I64 c.1 ∧ I64 c.2.1 ∧ I64 c.2.2.1 ∧ I64 c.2.2.2.1 ∧ I64 c.2.2.2.2.1 ∧ I64 c.2.2.2.2.2) := by
  refine (Rd.struct Try.underlying50 (ts := [3, 3, 3, 3, 3, 3]) (.cons rdI (.cons rdI (.cons rdI (.cons rdI (.cons rdI (.cons rdI .nil)))))) rfl ?_ ?_).map (fun p => (p.1, p.2.1, p.2.2.1, p.2.2.2.1, p.2.2.2.2.1, p.2.2.2.2.2.1)) (fun _ _ => rfl) (fun _ h => ⟨h.1, h.2.1, h.2.2.1, h.2.2.2.1, h.2.2.2.2.1, h.2.2.2.2.2.1⟩)
  · intro i f hf
    match i, hf with
    | 0, hf => cases hf; rfl
    | 1, hf => cases hf; simp [cells3]
    | 2, hf => cases hf; simp [cells3]
    | 3, hf => cases hf; simp [cells3]
    | 4, hf => cases hf; simp [cells3]
    | 5, hf => cases hf; simp [cells3]
    | i + 6, hf => simp at hf
  · simp [cells50, cells3]
def CallI (c : Go.Am.Call) : Prop := I64 c.1 ∧ I64 c.2.1 ∧ I64 c.2.2.1 ∧ I64 c.2.2.2.1 ∧ I64 c.2.2.2.2.1 ∧ I64 c.2.2.2.2.2
theorem rdCalls : Rd Try.prog 23 (fun l : List Go.Am.Call => [.list 6 (eCalls l)]) (fun l => l.length < Lg ∧ ∀ c ∈ l, CallI c) := by
  refine (Rd.slice Try.underlying23 rdCall (fun c => .agg [.int .i64 c.1, .int .i64 c.2.1, .int .i64 c.2.2.1, .int .i64 c.2.2.2.1, .int .i64 c.2.2.2.2.1, .int .i64 c.2.2.2.2.2]) (fun _ _ => rfl) (by rw [cells50]; decide)).map id (fun l _ => ?_) (fun l h => ⟨by have := h.1; simp only [maxLen] at this; exact (by omega : l.length < 9223372036854775808), h.2⟩)
  rw [cells50]
  simp [eCalls, enc, cCall, cG, lc, l1, cI]
theorem rdB4 : Rd Try.prog 44 (fun a : Int × Int × Int × Int => [.int .u8 a.1, .int .u8 a.2.1, .int .u8 a.2.2.1, .int .u8 a.2.2.2]) (fun a => U8 a.1 ∧ U8 a.2.1 ∧ U8 a.2.2.1 ∧ U8 a.2.2.2) := by
  refine (Rd.array Try.underlying44 rdB (by rw [cells44, cells5])).map (fun l => (l.getD 0 0, l.getD 1 0, l.getD 2 0, l.getD 3 0)) ?_ ?_
  · rintro l ⟨hl, _⟩
    match l, hl with
    | [a, b, c, d], _ => rfl
  · rintro l ⟨hl, h⟩
    match l, hl with
    | [a, b, c, d], _ => exact ⟨h a (by simp), h b (by simp), h c (by simp), h d (by simp)⟩
end Go.Proofs.Ytlpolnmadfmphaa
