/- Own text: EL2. -/
import Derived.Test.YtalfdjihejohoaaD1ff
import Derived.Test.YtalfdjihejohoaaD1ga
set_option maxRecDepth 100000
set_option linter.unusedVariables false
set_option linter.unusedSimpArgs false
set_option linter.unusedSectionVars false
namespace Go.Am
open Go Go.Proofs
structure Ren (x y : List (List Acc)) (σ : Int → Int) : Prop where
  len : y.length = x.length
  rng : ∀ t : Int, 0 ≤ t → t < (y.length : Int) → 0 ≤ σ t ∧ σ t < (x.length : Int)
  row : ∀ t : Int, 0 ≤ t → t < (y.length : Int) → y[t.toNat]? = x[(σ t).toNat]?
  inj : ∀ t u : Int, 0 ≤ t → t < (y.length : Int) → 0 ≤ u → u < (y.length : Int) → σ t = σ u → t = u
def rhoS (σ : Int → Int) (s : Sta) : Sta := (σ s.1, s.2.1, s.2.2)
section
variable {x y : List (List Acc)} {σ : Int → Int} (R : Ren x y σ)
include R
theorem Ren.acc {t a : Int} (h0 : 0 ≤ t) (h1 : t < (y.length : Int)) : acc y t a = acc x (σ t) a := by
  unfold Am.acc; rw [R.row t h0 h1]
theorem Ren.there {t a : Int} (h0 : 0 ≤ t) (h1 : t < (y.length : Int)) : there y t a = there x (σ t) a := by
  unfold Am.there
  rw [R.row t h0 h1, decide_eq_true h0, decide_eq_true (R.rng t h0 h1).1]
theorem Ren.isPair {s : Sta} (h0 : 0 ≤ s.1) (h1 : s.1 < (y.length : Int)) : isPair y s = isPair x (rhoS σ s) := by
  unfold Am.isPair rhoS
  dsimp only
  rw [R.there h0 h1, R.there h0 h1, R.acc h0 h1, R.acc h0 h1]
theorem Ren.eq {t u : Int} (h0 : 0 ≤ t) (h1 : t < (y.length : Int)) (g0 : 0 ≤ u) (g1 : u < (y.length : Int)) : decide (t = u) = decide (σ t = σ u) :=
  decide_eq_decide.2 ⟨fun e => e ▸ rfl, R.inj t u h0 h1 g0 g1⟩
theorem Ren.conflict {t a u b : Int} (h0 : 0 ≤ t) (h1 : t < (y.length : Int)) (g0 : 0 ≤ u) (g1 : u < (y.length : Int)) : conflict y t a u b = conflict x (σ t) a (σ u) b := by
  unfold Am.conflict
  rw [R.acc h0 h1, R.acc g0 g1]
  congr 2
  have := R.eq h0 h1 g0 g1
  rw [decide_eq_decide] at this
  exact decide_eq_decide.2 (not_congr this)
theorem Ren.getD {t : Int} (h0 : 0 ≤ t) (h1 : t < (y.length : Int)) : y.getD t.toNat [] = x.getD (σ t).toNat [] := by
  rw [List.getD_eq_getElem?_getD, List.getD_eq_getElem?_getD, R.row t h0 h1]
theorem Ren.inS {s : Sta} (h : inS y s) : inS x (rhoS σ s) := by
  obtain ⟨h1, h2, h3, h4, h5, h6⟩ := h
  refine ⟨(R.rng _ h1 h2).1, (R.rng _ h1 h2).2, h3, h4, ?_, ?_⟩
  · show s.2.2 < ((x.getD (σ s.1).toNat []).length : Int)
    rw [← R.getD h1 h2]; exact h5
  · rcases h6 with h6 | h6
    · exact .inl h6
    · exact .inr (by rw [← R.isPair h1 h2]; exact h6)
theorem Ren.isCircle {l : List Sta} (h : ∀ s ∈ l, Am.inS y s) : isCircle y l = isCircle x (l.map (rhoS σ)) := by
  unfold Am.isCircle
  have hg : ∀ i, i < l.length → (l.map (rhoS σ)).getD i (0, 0, 0) = rhoS σ (l.getD i (0, 0, 0)) ∧ Am.inS y (l.getD i (0, 0, 0)) := fun i hi => by
    rw [List.getD_eq_getElem?_getD, List.getElem?_map, List.getD_eq_getElem?_getD, List.getElem?_eq_getElem hi]
    exact ⟨rfl, h _ (List.getElem_mem hi)⟩
  congr 1
  · rw [List.length_map]
    have : ∀ i ∈ List.range l.length, circAt y l i = circAt x (l.map (rhoS σ)) i := fun i hi => by
      have hi := List.mem_range.1 hi
      have h1 := hg i hi
      have h2 := hg ((i + 1) % l.length) (Nat.mod_lt _ (by omega))
      unfold circAt
      simp only [List.length_map]
      rw [h1.1, h2.1]
      obtain ⟨a1, a2, _⟩ := h1.2
      obtain ⟨b1, b2, _⟩ := h2.2
      rw [R.conflict a1 a2 b1 b2]
      congr 2
      rw [← List.map_take, List.any_map]
      refine any_congrM (fun u hu => ?_)
      obtain ⟨c1, c2, _⟩ := h u (List.mem_of_mem_take hu)
      exact R.eq c1 c2 a1 a2
    rw [Bool.eq_iff_iff, List.all_eq_true, List.all_eq_true]
    exact ⟨fun h i hi => by rw [← this i hi]; exact h i hi, fun h i hi => by rw [this i hi]; exact h i hi⟩
  · rw [List.any_map]
    refine any_congrM (fun s hs => ?_)
    obtain ⟨c1, c2, _⟩ := h s hs
    exact R.isPair c1 c2
where
  any_congrM {α : Type} {l : List α} {p q : α → Bool} (h : ∀ a ∈ l, p a = q a) : l.any p = l.any q := by
    induction l with
    | nil => rfl
    | cons a l ih => rw [List.any_cons, List.any_cons, h a (by simp), ih (fun b hb => h b (by simp [hb]))]
end
section
variable {x : List (List Acc)} {l : List Int} (ht : threadsB x.length l = true)
include ht
theorem threads_len : l.length = x.length := by
  unfold threadsB at ht
  simp only [Bool.and_eq_true, decide_eq_true_eq] at ht
  exact ht.2
theorem threads_at (i : Nat) (hi : i < l.length) : 0 ≤ l.getD i 0 ∧ l.getD i 0 < (x.length : Int) ∧ ∀ j, j < i → l.getD j 0 ≠ l.getD i 0 := by
  unfold threadsB at ht
  simp only [Bool.and_eq_true, decide_eq_true_eq, List.all_eq_true, List.mem_range] at ht
  have := ht.1 i hi
  unfold thAt at this
  simp only [Bool.and_eq_true, decide_eq_true_eq, Bool.not_eq_true', List.contains_eq_mem, decide_eq_false_iff_not] at this
  refine ⟨this.1.1, by omega, fun j hj e => this.2 ?_⟩
  rw [← e, List.getD_eq_getElem?_getD, List.getElem?_eq_getElem (by omega), Option.getD_some]
  have : l[j] = (l.take i)[j]'(by simp; omega) := by rw [List.getElem_take]
  rw [this]
  exact List.getElem_mem _
theorem renamed_len : (renamed x l).length = x.length := by unfold renamed; rw [List.length_map]; exact threads_len ht
theorem renamed_get {t : Nat} (h1 : t < l.length) : (renamed x l)[t]? = x[(l.getD t 0).toNat]? := by
  unfold renamed
  have h2 := threads_at ht t h1
  rw [List.getElem?_map, List.getElem?_eq_getElem h1, Option.map_some]
  have e : l.getD t 0 = l[t] := by rw [List.getD_eq_getElem?_getD, List.getElem?_eq_getElem h1]; rfl
  rw [← e, List.getD_eq_getElem?_getD, List.getElem?_eq_getElem (by omega)]
  rfl
theorem valid_renamed (hv : valid x = true) : valid (renamed x l) = true := by
  unfold valid at *
  rw [renamed_len ht]
  simp only [Bool.and_eq_true, Bool.not_eq_true'] at *
  refine ⟨hv.1, ?_⟩
  rw [List.any_eq_false] at *
  intro r hr
  obtain ⟨i, hi, rfl⟩ := List.getElem_of_mem hr
  have hi' : i < l.length := by rw [renamed_len ht] at hi; rw [threads_len ht]; exact hi
  have h2 := threads_at ht i hi'
  have := renamed_get ht hi'
  rw [List.getElem?_eq_getElem hi, List.getElem?_eq_getElem (by omega)] at this
  rw [Option.some.inj this]
  exact hv.2 _ (List.getElem_mem _)
end
end Go.Am

set_option maxRecDepth 100000
set_option linter.unusedVariables false
set_option linter.unusedSimpArgs false
set_option linter.unusedSectionVars false
namespace Go.Am
open Go Go.Proofs
section
variable {x y : List (List Acc)} {σ τ : Int → Int} {c c' : List (List Int)}
end
end Go.Am
