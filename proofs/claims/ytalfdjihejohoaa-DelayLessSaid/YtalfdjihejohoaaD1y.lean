/- Own text: D1y. -/
import Derived.Test.YtalfdjihejohoaaAmArgs
import Derived.Test.YtalfdjihejohoaaD1n
import Derived.Test.YtalfdjihejohoaaRows
set_option maxRecDepth 100000
namespace Go.Proofs.Ytalfdjihejohoaa
open Go Go.Am Go.ChangeShapes Go.RowKit
theorem own : ownKnob Try.prog.godebug = none := by kernel_rfl
theorem laid : laidOutB Try.prog = true := by kernel_rfl
theorem cells76 : Program.cellsOf Try.prog 76 = 2 := by kernel_rfl
theorem cells25 : Program.cellsOf Try.prog 25 = 1 := by kernel_rfl
theorem cells3 : Program.cellsOf Try.prog 3 = 1 := by kernel_rfl
theorem cells4 : Program.cellsOf Try.prog 4 = 1 := by kernel_rfl

theorem rdAcc : Rd Try.prog 76 (fun a : Acc => [I a.1, .bool a.2]) (fun _ => True) := by
  refine (Rd.struct Try.underlying76 (ts := [3, 4]) (.cons (.int Try.underlying3) (.cons (.bool Try.underlying4) .nil)) rfl ?_ ?_).map (fun p => (p.1, p.2.1)) (fun _ _ => rfl) (fun _ _ => trivial)
  · intro i f hf
    match i, hf with
    | 0, hf => cases hf; rfl
    | 1, hf => cases hf; simp [cells3]
    | i + 2, hf => simp at hf
  · simp [cells76, cells3, cells4]
theorem rdAccs : Rd Try.prog 25 (fun l : List Acc => [dAccs l]) (fun l => l.length ≤ maxLen) := by
  refine (Rd.slice Try.underlying25 rdAcc dAcc (fun _ _ => rfl) (by rw [cells76]; decide)).map id (fun l _ => ?_) (fun l h => h.1)
  rw [cells76]; rfl
theorem rdX : Rd Try.prog 22 (fun x : List (List Acc) => [dX x]) Big := by
  refine (Rd.slice Try.underlying22 rdAccs dAccs (fun _ _ => rfl) (by rw [cells25]; decide)).map id (fun l _ => ?_) (fun l h => h)
  rw [cells25]; rfl
theorem rdB : Rd Try.prog 5 (fun n => [D.int .u8 n]) (fun n => 0 ≤ n ∧ n < 256) :=
  (Rd.int Try.underlying5).map id (fun _ _ => rfl) (fun n h => by have := bounds_u8 h; simp only [id]; omega)

theorem less_contract (H : Type) (enc : TypeId × Value → H) (W : World) (base : Nat) (args : Array Value) (ds gs : List (DataW H)) (before : List MemPlace)
    (hval : ∀ (j : Nat) t v, Try.f3.params[j]? = some t → args[j]? = some v → Value.okWide Try.prog W .any base t v)
    (hW : DataW.Whole enc Try.prog Try.f3.params.toList Rows.delayLessSpec.vars false W args.toList ds gs before) :
    Calls Try.prog 3 args W fun e W' => ∃ v, e = .returned v ∧ Rows.delayLessSpec.post enc Try.prog Try.f3 false true false false W args v W' := by
  have hW' := hW
  obtain ⟨p, q, hA, hV, rfl, hfz, hnd⟩ := hW
  rw [Try.params3] at hA hval
  obtain ⟨v0, v1, v2, d0, d1, d2, p0, p1, p2, rfl, rfl, rfl, h0, h1, h2⟩ := trodAll_three hA
  obtain ⟨x, hx, r0⟩ := rdX.arg (pk := dX) (fun _ => rfl) (r := .any) (b0 := base) (okWide_oneCell (hval 0 22 v0 rfl rfl) (by simp [Try.underlying22]) (by simp [Try.underlying22])) h0
  obtain ⟨t, ht, r1⟩ := rdB.arg (pk := D.int .u8) (fun _ => rfl) (r := .any) (b0 := base) (okWide_oneCell (hval 1 5 v1 rfl rfl) (by simp [Try.underlying5]) (by simp [Try.underlying5])) h1
  obtain ⟨a, ha, r2⟩ := rdB.arg (pk := D.int .u8) (fun _ => rfl) (r := .any) (b0 := base) (okWide_oneCell (hval 2 5 v2 rfl rfl) (by simp [Try.underlying5]) (by simp [Try.underlying5])) h2
  refine row_step laid (fn := Try.f3) (tb := 4) ?_ rfl Try.underlying4 rfl hW' rfl (DelayLess_ok x t a hx ht ha) rfl ?_
  · exact of_decide_eq_true (by kernel_rfl)
  · intro i hi
    match i, hi with
    | 0, _ => exact r0
    | 1, _ => exact r1
    | 2, _ => exact r2
    | i + 3, hi => simp at hi; omega

theorem less_lifted (os : Os) (started : os.Started) (H : Type) (enc : TypeId × Value → H) :
    ReturnsInHanded {} Try.checked os 3 .any (Rows.delayLessSpec.pre6 enc Try.prog Try.f3 Rows.delayLessRow.domain false) (Rows.delayLessSpec.post enc Try.prog Try.f3 false true false false) := by
  refine returnsInHanded_of_change (C := Try.checked) own started (by kernel_rfl) Try.func3
    (ChangeSpec.witness6 (enc := enc) (C := Try.checked) false ⟨#[], #[.slice none 0 0, .int .u8 0, .int .u8 0], []⟩ 8 (by kernel_rfl) (by kernel_rfl) (by kernel_rfl) (by kernel_rfl)) ?_
  intro W base args ds gs before hval hW _ _
  exact less_contract H enc W base args ds gs before hval hW

theorem less_said : Rows.DelayLessSaid :=
  OpenClaim.holds_of_wide 3 Try.f3 rfl rfl rfl rfl rfl rfl rfl ⟨rfl, rfl, rfl, rfl, rfl⟩ rfl rfl rfl rfl rfl (by kernel_rfl) Try.func3 (by kernel_rfl)
    (of_decide_eq_true (by kernel_rfl)) (by unfold Func.isWrapper; first | (rw [if_pos (by decide +kernel)]; kernel_rfl) | (rw [if_neg (by decide +kernel)]; exact ⟨rfl, rfl⟩))
    (fun os started H enc _ => less_lifted os started H enc)
end Go.Proofs.Ytalfdjihejohoaa
