/- Own text: E1H. -/
import Derived.Test.YtalfdjihejohoaaD1ff
import Derived.Test.YtalfdjihejohoaaD1ga
import Derived.Test.YtalfdjihejohoaaAmLaw
set_option maxRecDepth 100000
set_option linter.unusedVariables false
set_option linter.unusedSimpArgs false
set_option linter.unusedSectionVars false
namespace Go.Am
open Go Go.Proofs
noncomputable def dec {α : Type} (f : α → D) (ok : List α → Prop) (l : List D) : Option (List α) :=
  open Classical in if h : ∃ x, ok x ∧ l = x.map f then some h.choose else none
theorem decI {α : Type} {f : α → D} {ok : List α → Prop} {l : List D} {x : List α} (h : dec f ok l = some x) : ok x ∧ l = x.map f := by
  unfold dec at h
  split at h
  · rename_i hx; cases h; exact hx.choose_spec
  · cases h
theorem map_inj' {α : Type} {f : α → D} (hf : ∀ a b, f a = f b → a = b) : ∀ {x y : List α}, x.map f = y.map f → x = y
  | [], [], _ => rfl
  | [], _ :: _, h => by simp at h
  | _ :: _, [], h => by simp at h
  | a :: x, b :: y, h => by
    simp only [List.map_cons, List.cons.injEq] at h
    rw [hf a b h.1, map_inj' hf h.2]
theorem dec_eq {α : Type} {f : α → D} {ok : List α → Prop} (hf : ∀ a b, f a = f b → a = b) {x : List α} (hx : ok x) : dec f ok (x.map f) = some x := by
  unfold dec
  have h : ∃ y, ok y ∧ x.map f = y.map f := ⟨x, hx, rfl⟩
  rw [dif_pos h]
  exact congrArg some (map_inj' hf h.choose_spec.2).symm
theorem dAcc_inj' (a b : Acc) (h : dAcc a = dAcc b) : a = b := by
  obtain ⟨a1, a2⟩ := a; obtain ⟨b1, b2⟩ := b
  simp [dAcc, I] at h; simp [h]
theorem dAccs_inj (a b : List Acc) (h : dAccs a = dAccs b) : a = b := by
  simp only [dAccs, D.list.injEq, true_and] at h
  exact map_inj' dAcc_inj' h
theorem I_inj (a b : Int) (h : I a = I b) : a = b := by simpa [I] using h
theorem dFen_inj (a b : Fen) (h : dFen a = dFen b) : a = b := by
  obtain ⟨a1, a2⟩ := a; obtain ⟨b1, b2⟩ := b
  simp [dFen, I] at h; simp [h]
def LenOk {α : Type} (n : Nat) (l : List α) : Prop := l.length ≤ n
def CostOk (c : List (List Int)) : Prop := c.length ≤ 1000000000 ∧ ∀ r ∈ c, r.length ≤ 9223372036854775807
noncomputable abbrev ofX (l : List D) : Option (List (List Acc)) := dec dAccs Big l
noncomputable abbrev ofF (l : List D) : Option (List Fen) := dec dFen (LenOk 1000000000) l
noncomputable abbrev ofI (l : List D) : Option (List Int) := dec I (LenOk 9223372036854775807) l
noncomputable def E13 (A : Ar) (x1 : List D) : Option Bool := (ofX x1).map long
noncomputable def E14 (A : Ar) (x1 : List D) : Option Bool := (ofX x1).map valid
noncomputable def E15 (A : Ar) : Option Bool := some true
noncomputable def E25 (A : Ar) (x1 : List D) : Option (List D × Int) := (ofX x1).map fun x => if valid x then ((turned x).map dAccs, 0) else ([], 90)
noncomputable def E26 (A : Ar) (x1 x2 : List D) : Option Bool := (ofX x1).bind fun x => (ofX x2).map fun y => decide (x = y)
noncomputable def E48 (A : Ar) (x1 x2 : List D) : Option (List D × Int) := (ofX x1).bind fun x => (ofI x2).map fun l => ((renT x l).1.map dAccs, (renT x l).2)
noncomputable def E51 (A : Ar) (x1 : Int) (x2 : List D) : Option Bool := if 0 ≤ x1 ∧ x1 ≤ 1000000000 then (ofI x2).map fun l => threadsB x1.toNat l else none
noncomputable def E85 (A : Ar) (x1 x2 : List D) : Option (List D × Int) := (ofX x1).bind fun x => (ofF x2).map fun l => ((fencedT x l).1.map dFen, (fencedT x l).2)
noncomputable def E89 (A : Ar) (x1 x2 : List D) : Option Int := (ofX x1).bind fun x => (ofF x2).map fun l => (fencedT x l).2
noncomputable def E96 (A : Ar) (x1 : List D) (x2 x3 : Int) : Option Bool := (ofF x1).map fun l => l.contains (x2, x3)
section
variable {A : Ar} (hA : A = Ar.std) {x1 x2 : List D}
include hA
theorem E13w {v16 : Bool} (h : E13 A x1 = some v16) : ACall Try.prog 13 [(.d (.list 1 x1))] [] (.d (.bool v16)) [] := by
  obtain ⟨x, hx, rfl⟩ := Option.map_eq_some_iff.1 h
  obtain ⟨hb, rfl⟩ := decI hx
  exact long_ok x hb
theorem E14w {v16 : Bool} (h : E14 A x1 = some v16) : ACall Try.prog 14 [(.d (.list 1 x1))] [] (.d (.bool v16)) [] := by
  obtain ⟨x, hx, rfl⟩ := Option.map_eq_some_iff.1 h
  obtain ⟨hb, rfl⟩ := decI hx
  exact validR_ok x hb
theorem E15w {v7 : Bool} (h : E15 A = some v7) : ACall Try.prog 15 [] [] (.d (.bool v7)) [] := by
  cases h; exact awake_ok
theorem E25w {v61 : List D} {v62 : Int} (h : E25 A x1 = some (v61, v62)) : ACall Try.prog 25 [(.d (.list 1 x1))] [] (.tuple [(.d (.list 1 v61)), (.d (.int .i64 v62))]) [] := by
  obtain ⟨x, hx, e⟩ := Option.map_eq_some_iff.1 h
  obtain ⟨hb, rfl⟩ := decI hx
  have := Turned_ok x hb
  cases hv : valid x <;> simp only [hv, if_true, if_false, Bool.false_eq_true] at e this <;> cases e <;> exact this
theorem E26w {v78 : Bool} (h : E26 A x1 x2 = some v78) : ACall Try.prog 26 [(.d (.list 1 x1)), (.d (.list 1 x2))] [] (.d (.bool v78)) [] := by
  obtain ⟨x, hx, h⟩ := Option.bind_eq_some_iff.1 h
  obtain ⟨y, hy, rfl⟩ := Option.map_eq_some_iff.1 h
  obtain ⟨hb, rfl⟩ := decI hx
  obtain ⟨hc, rfl⟩ := decI hy
  exact sameAccesses_ok x y hb hc
theorem E48w {v69 : List D} {v70 : Int} (h : E48 A x1 x2 = some (v69, v70)) : ACall Try.prog 48 [(.d (.list 1 x1)), (.d (.list 1 x2))] [] (.tuple [(.d (.list 1 v69)), (.d (.int .i64 v70))]) [] := by
  obtain ⟨x, hx, h⟩ := Option.bind_eq_some_iff.1 h
  obtain ⟨l, hl, e⟩ := Option.map_eq_some_iff.1 h
  obtain ⟨hb, rfl⟩ := decI hx
  obtain ⟨hc, rfl⟩ := decI hl
  cases e
  exact Renamed_ok x l hb hc
theorem E51w {x1 : Int} {v63 : Bool} (h : E51 A x1 x2 = some v63) : ACall Try.prog 51 [(.d (.int .i64 x1)), (.d (.list 1 x2))] [] (.d (.bool v63)) [] := by
  unfold E51 at h
  split at h
  · rename_i h0
    obtain ⟨l, hl, rfl⟩ := Option.map_eq_some_iff.1 h
    obtain ⟨hc, rfl⟩ := decI hl
    have := AreThreads_ok x1.toNat l (by omega) hc
    rw [show ((x1.toNat : Nat) : Int) = x1 by omega] at this
    exact this
  · cases h
theorem E85w {v10 : List D} {v11 : Int} (h : E85 A x1 x2 = some (v10, v11)) : ACall Try.prog 85 [(.d (.list 1 x1)), (.d (.list 2 x2))] [] (.tuple [(.d (.list 2 v10)), (.d (.int .i64 v11))]) [] := by
  obtain ⟨x, hx, h⟩ := Option.bind_eq_some_iff.1 h
  obtain ⟨l, hl, e⟩ := Option.map_eq_some_iff.1 h
  obtain ⟨hb, rfl⟩ := decI hx
  obtain ⟨hc, rfl⟩ := decI hl
  cases e
  exact fenced_ok x l hb hc
theorem E89w {v9 : Int} (h : E89 A x1 x2 = some v9) : ACall Try.prog 89 [(.d (.list 1 x1)), (.d (.list 2 x2))] [] (.d (.int .i64 v9)) [] := by
  obtain ⟨x, hx, h⟩ := Option.bind_eq_some_iff.1 h
  obtain ⟨l, hl, rfl⟩ := Option.map_eq_some_iff.1 h
  obtain ⟨hb, rfl⟩ := decI hx
  obtain ⟨hc, rfl⟩ := decI hl
  exact fencedR_ok x l hb hc
theorem E96w {x2 x3 : Int} {v6 : Bool} (h : E96 A x1 x2 x3 = some v6) : ACall Try.prog 96 [(.d (.list 2 x1)), (.d (.agg [(.int .i64 x2), (.int .i64 x3)]))] [] (.d (.bool v6)) [] := by
  obtain ⟨l, hl, rfl⟩ := Option.map_eq_some_iff.1 h
  obtain ⟨hb, rfl⟩ := decI hl
  exact contains_fen_ok l (x2, x3) (by unfold LenOk at hb; omega)
end
end Go.Am
