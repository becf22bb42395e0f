/- Steps over code, as a proof over a function's text takes them. -/
import Derived.Test.YtalfdjihejohoaaAmDraw
set_option linter.unusedSimpArgs false
set_option linter.unusedSectionVars false
namespace Go.Am
open Go
section
variable {P : Program} {T : Types} {m : Nat} {Q : Exit → St → Prop} {σ σ' : St} {ops : Array Oper} {an : Ann} {id : Nat} {c : Code}

theorem AWp.reg (an : Ann) (hT : TOk P T) (h : ∀ A : Ar, A = Ar.std → runP A T an ops.toList ops.toList σ = .done σ') (hm : m ≤ σ.heap.length) (k : AWp P m c Q σ') : AWp P m (.seq (.region id ops false) c) Q σ :=
  AWp.seq (AWp.region (AOps.done hT (an := an) h hm k))
theorem AWp.regD (an : Ann) (hT : TOk P T) (hmix : P.follows .mixedOrders = true) {xs : List Rec} (h : ∀ A : Ar, A = Ar.std → runD A T an ops.toList ops.toList σ [] = .done σ' xs) (hok : okOrder ops.toList (xs.map Rec.foot) = true) (hm : m ≤ σ.heap.length) (k : AWp P m c Q σ') : AWp P m (.seq (.region id ops true) c) Q σ :=
  AWp.seq (AWp.regionDraw hmix hm (DOps.done hT (an := an) rfl h hok k))
theorem AWp.reg1 (an : Ann) (hT : TOk P T) (h : ∀ A : Ar, A = Ar.std → runP A T an ops.toList ops.toList σ = .done σ') (hm : m ≤ σ.heap.length) (k : Q .normal σ') : AWp P m (.region id ops false) Q σ :=
  AWp.region (AOps.done hT (an := an) h hm k)
theorem AWp.reg1D (an : Ann) (hT : TOk P T) (hmix : P.follows .mixedOrders = true) {xs : List Rec} (h : ∀ A : Ar, A = Ar.std → runD A T an ops.toList ops.toList σ [] = .done σ' xs) (hok : okOrder ops.toList (xs.map Rec.foot) = true) (hm : m ≤ σ.heap.length) (k : Q .normal σ') : AWp P m (.region id ops true) Q σ :=
  AWp.regionDraw hmix hm (DOps.done hT (an := an) rfl h hok k)

theorem AWp.keepThen (ts : List Nat) {K : St → Prop} (h : AWp P m c (AExit.then (fun σ => K (σ.keep ts)) Q) σ) : AWp P m c (AExit.then K Q) σ := by
  intro r n G a w hm R
  refine wpIn_mono (h r n G a w hm R) ?_
  rintro e a' w' ⟨σ', G', R', hE, hm', hQ⟩
  cases e with
  | normal => exact ⟨_, G', R'.keep ts, hE, hm', hQ⟩
  | _ => exact ⟨σ', G', R', hE, hm', hQ⟩

/-- A loop with an invariant; ts: the slots that the states speak of. -/
theorem AWp.loopInv {ι : Type} (Inv : ι → Prop) (μ : ι → Nat) (ts : List Nat) (S : ι → St) (i0 : ι) (hσ : σ.keep ts = S i0) (h0 : Inv i0)
    (h : ∀ i, Inv i → AWp P m c (AExit.then (fun σ' => ∃ j, Inv j ∧ μ j < μ i ∧ σ'.keep ts = S j) Q) (S i)) : AWp P m (.loop c) Q σ := by
  refine AWp.keep ts ?_
  rw [hσ]
  refine AWp.loop (ι := { i : ι // Inv i }) (fun i => μ i.1) (fun i => S i.1) ⟨i0, h0⟩ ?_
  rintro ⟨i, hi⟩
  refine AWp.keepThen ts (AWp.mono (h i hi) ?_)
  intro e σ' hq
  cases e with
  | normal => obtain ⟨j, hj, hl, e⟩ := hq; exact ⟨⟨j, hj⟩, hl, e⟩
  | _ => exact hq
end
end Go.Am
