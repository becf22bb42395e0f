/- Own text: ERowrenamed. -/
import Derived.Test.YtalfdjihejohoaaD1frow
import Derived.Test.YtalfdjihejohoaaEL4
import Derived.Test.YtalfdjihejohoaaGenw0
set_option maxRecDepth 100000
namespace Go.Proofs.Ytalfdjihejohoaa
open Go Go.Am Go.ChangeShapes Go.RowKit
theorem renamed_contract (H : Type) (enc : TypeId × Value → H) (W : World) (base : Nat) (args : Array Value) (ds gs : List (DataW H)) (before : List MemPlace)
    (hval : ∀ (j : Nat) t v, Try.f10.params[j]? = some t → args[j]? = some v → Value.okWide Try.prog W .any base t v)
    (hW : DataW.Whole enc Try.prog Try.f10.params.toList Rows.delayRenamedSpec.vars false W args.toList ds gs before) :
    Calls Try.prog 10 args W fun e W' => ∃ v, e = .returned v ∧ Rows.delayRenamedSpec.post enc Try.prog Try.f10 false true false false W args v W' := by
  have hW' := hW
  obtain ⟨p, q, hA, hV, rfl, hfz, hnd⟩ := hW
  rw [Try.params10] at hA hval
  obtain ⟨v0, vs0, d0, ds0, p0, q0, hargs, rfl, rfl, h0, hA⟩ := trodAll_cons hA
  obtain ⟨v1, vs1, d1, ds1, p1, q1, rfl, rfl, rfl, h1, hA⟩ := trodAll_cons hA
  obtain ⟨v2, vs2, d2, ds2, p2, q2, rfl, rfl, rfl, h2, hA⟩ := trodAll_cons hA
  obtain ⟨rfl, rfl, rfl⟩ := trodAll_nil hA
  obtain rfl : args = #[v0, v1, v2] := by cases args; simp_all
  obtain ⟨x0, k0, r0⟩ := rdX.arg (pk := dX) (fun _ => rfl) (r := .any) (b0 := base) (okWide_oneCell (hval 0 22 v0 rfl rfl) (by simp [Try.underlying22]) (by simp [Try.underlying22])) h0
  obtain ⟨x1, k1, r1⟩ := rdCost.arg (pk := dCost) (fun _ => rfl) (r := .any) (b0 := base) (okWide_oneCell (hval 1 48 v1 rfl rfl) (by simp [Try.underlying48]) (by simp [Try.underlying48])) h1
  obtain ⟨x2, k2, r2⟩ := rdRow.arg (pk := dRow) (fun _ => rfl) (r := .any) (b0 := base) (okWide_oneCell (hval 2 55 v2 rfl rfl) (by simp [Try.underlying55]) (by simp [Try.underlying55])) h2
  refine row_step laid (fn := Try.f10) (tb := 4) ?_ rfl Try.underlying4 rfl hW' rfl (E10w rfl (E10_ok x0 x1 x2 k0 (by have := k1.1; simp only [maxLen] at this; omega) (fun r hr => by have := k1.2 r hr; simp only [maxLen] at this; omega) (by simp only [maxLen] at k2; omega))) rfl ?_
  · exact of_decide_eq_true (by kernel_rfl)
  · intro i hi
    match i, hi with
    | 0, _ => exact r0
    | 1, _ => exact r1
    | 2, _ => exact r2
    | i + 3, hi => simp at hi <;> omega
theorem renamed_lifted (os : Os) (started : os.Started) (H : Type) (enc : TypeId × Value → H) :
    ReturnsInHanded {} Try.checked os 10 .any (Rows.delayRenamedSpec.pre6 enc Try.prog Try.f10 Rows.delayRenamedRow.domain false) (Rows.delayRenamedSpec.post enc Try.prog Try.f10 false true false false) := by
  refine returnsInHanded_of_change (C := Try.checked) own started (by kernel_rfl) Try.func10
    (ChangeSpec.witness6 (enc := enc) (C := Try.checked) false ⟨#[], #[.slice none 0 0, .slice none 0 0, .slice none 0 0], []⟩ 10 (by kernel_rfl) (by kernel_rfl) (by kernel_rfl) (by kernel_rfl)) ?_
  intro W base args ds gs before hval hW _ _
  exact renamed_contract H enc W base args ds gs before hval hW
theorem renamed_said : Rows.DelayRenamedSaid :=
  OpenClaim.holds_of_wide 10 Try.f10 rfl rfl rfl rfl rfl rfl rfl ⟨rfl, rfl, rfl, rfl, rfl⟩ rfl rfl rfl rfl rfl (by kernel_rfl) Try.func10 (by kernel_rfl)
    (of_decide_eq_true (by kernel_rfl)) (by unfold Func.isWrapper; first | (rw [if_pos (by decide +kernel)]; kernel_rfl) | (rw [if_neg (by decide +kernel)]; exact ⟨rfl, rfl⟩))
    (fun os started H enc _ => renamed_lifted os started H enc)
end Go.Proofs.Ytalfdjihejohoaa
