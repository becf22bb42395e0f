/- Own text: RRowcomposed. -/
import Derived.Test.YtcnplegmmmobcaaRRd
import Derived.Test.YtcnplegmmmobcaaRL39
import Derived.Test.YtcnplegmmmobcaaGenw0
set_option maxRecDepth 100000
namespace Go.Proofs.Ytcnplegmmmobcaa
open Go Go.Am Go.ChangeShapes Go.RowKit
theorem composed_contract (H : Type) (enc : TypeId × Value → H) (W : World) (base : Nat) (args : Array Value) (ds gs : List (DataW H)) (before : List MemPlace)
    (hval : ∀ (j : Nat) t v, Try.f6.params[j]? = some t → args[j]? = some v → Value.okWide Try.prog W .any base t v)
    (hW : DataW.Whole enc Try.prog Try.f6.params.toList Rows.refineComposedSpec.vars false W args.toList ds gs before) :
    Calls Try.prog 6 args W fun e W' => ∃ v, e = .returned v ∧ Rows.refineComposedSpec.post enc Try.prog Try.f6 false true false false W args v W' := by
  have hW' := hW
  obtain ⟨p, q, hA, hV, rfl, hfz, hnd⟩ := hW
  rw [Try.params6] at hA hval
  obtain ⟨v0, vs0, d0, ds0, p0, q0, hargs, rfl, rfl, h0, hA⟩ := trodAll_cons hA
  obtain ⟨v1, vs1, d1, ds1, p1, q1, rfl, rfl, rfl, h1, hA⟩ := trodAll_cons hA
  obtain ⟨rfl, rfl, rfl⟩ := trodAll_nil hA
  obtain rfl : args = #[v0, v1] := by cases args; simp_all
  obtain ⟨x0, k0, r0⟩ := rdPairs.arg (pk := (fun l => .list 2 (ePr l))) (fun _ => rfl) (r := .any) (b0 := base) (okWide_oneCell (hval 0 46 v0 rfl rfl) (by simp [Try.underlying46]) (by simp [Try.underlying46])) h0
  obtain ⟨x1, k1, r1⟩ := rdPairs.arg (pk := (fun l => .list 2 (ePr l))) (fun _ => rfl) (r := .any) (b0 := base) (okWide_oneCell (hval 1 46 v1 rfl rfl) (by simp [Try.underlying46]) (by simp [Try.underlying46])) h1
  refine row_step laid (fn := Try.f6) (tb := 4) ?_ rfl Try.underlying4 rfl hW' rfl (R6w rfl (R6_ok x0 x1 k0 k1)) rfl ?_
  · exact of_decide_eq_true (by kernel_rfl)
  · intro i hi
    match i, hi with
    | 0, _ => exact r0
    | 1, _ => exact r1
    | i + 2, hi => simp at hi <;> omega
theorem composed_lifted (os : Os) (started : os.Started) (H : Type) (enc : TypeId × Value → H) :
    ReturnsInHanded {} Try.checked os 6 .any (Rows.refineComposedSpec.pre6 enc Try.prog Try.f6 Rows.refineComposedRow.domain false) (Rows.refineComposedSpec.post enc Try.prog Try.f6 false true false false) := by
  refine returnsInHanded_of_change (C := Try.checked) own started (by kernel_rfl) Try.func6
    (ChangeSpec.witness6 (enc := enc) (C := Try.checked) false ⟨#[], #[.slice none 0 0, .slice none 0 0], []⟩ 6 (by kernel_rfl) (by kernel_rfl) (by kernel_rfl) (by kernel_rfl)) ?_
  intro W base args ds gs before hval hW _ _
  exact composed_contract H enc W base args ds gs before hval hW
theorem composed_said : Rows.RefineComposedSaid :=
  OpenClaim.holds_of_wide 6 Try.f6 rfl rfl rfl rfl rfl rfl rfl ⟨rfl, rfl, rfl, rfl, rfl⟩ rfl rfl rfl rfl rfl (by kernel_rfl) Try.func6 (by kernel_rfl)
    (of_decide_eq_true (by kernel_rfl)) (by unfold Func.isWrapper; first | (rw [if_pos (by decide +kernel)]; kernel_rfl) | (rw [if_neg (by decide +kernel)]; exact ⟨rfl, rfl⟩))
    (fun os started H enc _ => composed_lifted os started H enc)
end Go.Proofs.Ytcnplegmmmobcaa
