/- From a contract on plain data to the call in a world. -/
import Derived.Test.YtalfdjihejohoaaAmLoop
import Derived.ProofKit
set_option linter.unusedSimpArgs false
set_option linter.unusedSectionVars false
namespace Go.Am
open Go Go.RowKit

/-- All cells of a world stay. -/
def cellsOfW (W : World) : Addr → Option Value := fun x => W.cell? x
def Gh.start (W : World) : Gh := { K := cellsOfW W, O := fun _ => none, β := fun _ => 0, nh := 0 }

theorem calls_of {P : Program} {f : FuncId} {avs : List AV} {r : AV} (hc : ACall P f avs [] r []) {W : World} {vs : Array Value} (hs : vs.size = avs.length)
    (hrep : ∀ (i : Nat) (hi : i < avs.length), RepV (Gh.start W) W .no avs[i] (vs.getD i Go.undef)) :
    Calls P f vs W fun e W' => (∃ v G', e = .returned v ∧ RepV G' W' .ret r v) ∧ Grown W W' ∧ ∀ i, i < W.heap.size → W'.heap[i]? = W.heap[i]? := by
  obtain ⟨_, _, _, _, _, h⟩ := hc
  have RH : RelH (Gh.start W) [] W := ⟨⟨fun b ℓ f h => by cases h⟩, rfl, fun i ob h => by simp at h, fun x v h => h, fun b ℓ f h => by cases h⟩
  have := h 0 (Gh.start W) W vs hs hrep RH (fun b ℓ f h => by cases h)
  have hw : CallsIn Fence.wide 0 P f vs W _ := this
  refine (callsIn_wide.1 hw).mono ?_
  rintro e W' ⟨v, G', rfl, hv, _, hE⟩
  refine ⟨⟨v, G', rfl, hv⟩, ⟨⟨hE.io.1, hE.io.2.1, fun i hi => ?_⟩, hE.io.2.2, hE.size⟩, fun i hi => (hE.others i hi rfl).1⟩
  have hb := (hE.others i hi rfl).1
  rw [hb]
  cases ho : W.heap[i]? with
  | none => rfl
  | some o => cases o <;> simp
end Go.Am
