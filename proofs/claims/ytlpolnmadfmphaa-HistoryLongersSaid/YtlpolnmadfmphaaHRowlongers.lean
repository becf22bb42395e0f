/- Own text: HRowlongers. -/
import Derived.Test.YtlpolnmadfmphaaHRd
import Derived.Test.YtlpolnmadfmphaaHL18
import Derived.Test.YtlpolnmadfmphaaGenw1
set_option maxRecDepth 100000
namespace Go.Proofs.Ytlpolnmadfmphaa
open Go Go.Am Go.ChangeShapes Go.RowKit
theorem longers_contract (H : Type) (enc : TypeId × Value → H) (W : World) (base : Nat) (args : Array Value) (ds gs : List (DataW H)) (before : List MemPlace)
    (hval : ∀ (j : Nat) t v, Try.f8.params[j]? = some t → args[j]? = some v → Value.okWide Try.prog W .any base t v)
    (hW : DataW.Whole enc Try.prog Try.f8.params.toList Rows.historyLongersSpec.vars false W args.toList ds gs before) :
    Calls Try.prog 8 args W fun e W' => ∃ v, e = .returned v ∧ Rows.historyLongersSpec.post enc Try.prog Try.f8 false true false false W args v W' := by
  have hW' := hW
  obtain ⟨p, q, hA, hV, rfl, hfz, hnd⟩ := hW
  rw [Try.params8] at hA hval
  obtain ⟨v0, vs0, d0, ds0, p0, q0, hargs, rfl, rfl, h0, hA⟩ := trodAll_cons hA
  obtain ⟨v1, vs1, d1, ds1, p1, q1, rfl, rfl, rfl, h1, hA⟩ := trodAll_cons hA
  obtain ⟨v2, vs2, d2, ds2, p2, q2, rfl, rfl, rfl, h2, hA⟩ := trodAll_cons hA
  obtain ⟨rfl, rfl, rfl⟩ := trodAll_nil hA
  obtain rfl : args = #[v0, v1, v2] := by cases args; simp_all
  obtain ⟨x0, k0, r0⟩ := rdCalls.arg (pk := (fun l => .list 6 (eCalls l))) (fun _ => rfl) (r := .any) (b0 := base) (okWide_oneCell (hval 0 23 v0 rfl rfl) (by simp [Try.underlying23]) (by simp [Try.underlying23])) h0
  obtain ⟨x1, k1, r1⟩ := rdI.arg (pk := (.int .i64)) (fun _ => rfl) (r := .any) (b0 := base) (okWide_oneCell (hval 1 3 v1 rfl rfl) (by simp [Try.underlying3]) (by simp [Try.underlying3])) h1
  obtain ⟨cs2, rfl⟩ : ∃ cs, v2 = .agg cs := by
    have h := hval 2 24 v2 rfl rfl
    unfold Value.okWide at h
    rw [Try.underlying24] at h
    exact ⟨_, h.choose_spec.1⟩
  obtain ⟨x2, k2, r2⟩ := rdAt.argAgg h2
  refine row_step laid (fn := Try.f8) (tb := 4) ?_ rfl Try.underlying4 rfl hW' rfl (H8w rfl (H8_ok x0 k0.1 x1 x2.1 x2.2)) rfl ?_
  · exact of_decide_eq_true (by kernel_rfl)
  · intro i hi
    match i, hi with
    | 0, _ => exact r0
    | 1, _ => exact r1
    | 2, _ => exact r2
    | i + 3, hi => simp at hi <;> omega
theorem longers_lifted (os : Os) (started : os.Started) (H : Type) (enc : TypeId × Value → H) :
    ReturnsInHanded {} Try.checked os 8 .any (Rows.historyLongersSpec.pre6 enc Try.prog Try.f8 Rows.historyLongersRow.domain false) (Rows.historyLongersSpec.post enc Try.prog Try.f8 false true false false) := by
  refine returnsInHanded_of_change (C := Try.checked) own started (by kernel_rfl) Try.func8
    (ChangeSpec.witness6 (enc := enc) (C := Try.checked) false ⟨#[], #[.slice none 0 0, .int .i64 0, .agg #[.int .i64 0, .int .i64 0]], []⟩ 8 (by kernel_rfl) (by kernel_rfl) (by kernel_rfl) (by kernel_rfl)) ?_
  intro W base args ds gs before hval hW _ _
  exact longers_contract H enc W base args ds gs before hval hW
theorem longers_said : Rows.HistoryLongersSaid :=
  OpenClaim.holds_of_wide 8 Try.f8 rfl rfl rfl rfl rfl rfl rfl ⟨rfl, rfl, rfl, rfl, rfl⟩ rfl rfl rfl rfl rfl (by kernel_rfl) Try.func8 (by kernel_rfl)
    (of_decide_eq_true (by kernel_rfl)) (by unfold Func.isWrapper; first | (rw [if_pos (by decide +kernel)]; kernel_rfl) | (rw [if_neg (by decide +kernel)]; exact ⟨rfl, rfl⟩))
    (fun os started H enc _ => longers_lifted os started H enc)
end Go.Proofs.Ytlpolnmadfmphaa
