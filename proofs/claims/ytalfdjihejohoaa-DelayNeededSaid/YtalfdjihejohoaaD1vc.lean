/- Own text: D1vc. -/
import Derived.Test.YtalfdjihejohoaaD1vb
set_option maxRecDepth 100000
set_option linter.unusedVariables false
set_option linter.unusedSimpArgs false
namespace Go.Am
open Go Go.Proofs

theorem pairwise_flatMap' {α β : Type} {R : β → β → Prop} {S : α → α → Prop} {l : List α} {g : α → List β} (h1 : l.Pairwise S) (h2 : ∀ a ∈ l, (g a).Pairwise R) (h3 : ∀ a b, S a b → ∀ y ∈ g a, ∀ z ∈ g b, R y z) : (l.flatMap g).Pairwise R := by
  induction l with
  | nil => simp
  | cons a r ih =>
    rw [List.flatMap_cons, List.pairwise_append]
    rw [List.pairwise_cons] at h1
    refine ⟨h2 a (by simp), ih h1.2 (fun b hb => h2 b (by simp [hb])), fun y hy z hz => ?_⟩
    obtain ⟨b, hb, hz⟩ := List.mem_flatMap.1 hz
    exact h3 a b (h1.1 b hb) y hy z hz
theorem stations_sorted (x : List (List Acc)) : (stations x).Pairwise (fun r s => earl r s = true) := by
  unfold stations staT
  refine pairwise_flatMap' List.pairwise_lt_range (fun t _ => ?_) (fun t u hlt y hy z hz => ?_)
  · unfold staA
    refine pairwise_flatMap' List.pairwise_lt_range (fun a _ => ?_) (fun a b hlt y hy z hz => ?_)
    · unfold staB
      refine List.Pairwise.map _ ?_ (List.Pairwise.filter _ List.pairwise_lt_range)
      intro b c h
      unfold earl
      simp; omega
    · unfold staB at hy hz
      obtain ⟨_, _, rfl⟩ := List.mem_map.1 hy
      obtain ⟨_, _, rfl⟩ := List.mem_map.1 hz
      unfold earl
      have : (a : Int) ≠ b := by omega
      simp [this]; omega
  · unfold staA at hy hz
    obtain ⟨_, _, hy⟩ := List.mem_flatMap.1 hy
    obtain ⟨_, _, hz⟩ := List.mem_flatMap.1 hz
    unfold staB at hy hz
    obtain ⟨_, _, rfl⟩ := List.mem_map.1 hy
    obtain ⟨_, _, rfl⟩ := List.mem_map.1 hz
    unfold earl
    have : (t : Int) ≠ u := by omega
    simp [this]; omega
theorem needed_sorted (x : List (List Acc)) : (neededL x).Pairwise (fun r s => earl r s = true) := by
  unfold neededL pairsL
  exact List.Pairwise.filter _ (List.Pairwise.filter _ (stations_sorted x))
theorem needed_next (x : List (List Acc)) (i : Nat) (r s : Sta) (h1 : (neededL x)[i]? = some r) (h2 : (neededL x)[i + 1]? = some s) : earl r s = true := by
  obtain ⟨g1, rfl⟩ := List.getElem?_eq_some_iff.1 h1
  obtain ⟨g2, rfl⟩ := List.getElem?_eq_some_iff.1 h2
  exact List.pairwise_iff_getElem.1 (needed_sorted x) i (i + 1) g1 g2 (by omega)

theorem circles_isCircF {x : List (List Acc)} {l : List Sta} : l ∈ circles x ↔ isCircF x l = true := by
  rw [mem_circles_iff]
  unfold isCircF
  simp only [Bool.and_eq_true, decide_eq_true_eq, List.all_eq_true, List.contains_eq_mem, and_assoc]
theorem circle_pair {x : List (List Acc)} {l : List Sta} (h : isCircle x l = true) : ∃ s ∈ l, isPair x s = true := by
  unfold isCircle at h
  simp only [Bool.and_eq_true, List.any_eq_true] at h
  obtain ⟨s, h1, h2⟩ := h.2
  exact ⟨s, h1, h2⟩
theorem circle_allIn {x : List (List Acc)} {l : List Sta} (h : l ∈ circles x) : allIn (neededL x) l = true := by
  unfold allIn
  rw [List.all_eq_true]
  intro s hs
  obtain ⟨_, _, h3, _⟩ := mem_circles_iff.1 h
  obtain ⟨_, _, _, _, _, h6⟩ := mem_stations_iff.1 (h3 s hs)
  rw [Bool.or_eq_true, decide_eq_true_eq, List.contains_eq_mem, decide_eq_true_eq]
  rcases h6 with h6 | h6
  · exact .inl h6
  · exact .inr ((mem_needed_iff x).2 ⟨h3 s hs, h6, l, h, hs⟩)
theorem needed_find {x : List (List Acc)} {s : Sta} (h : s ∈ neededL x) : ∃ l, (circles x).find? (·.contains s) = some l ∧ l ∈ circles x ∧ l.contains s = true := by
  obtain ⟨_, _, l, hl, hs⟩ := (mem_needed_iff x).1 h
  cases hf : (circles x).find? (·.contains s) with
  | none =>
    have := List.find?_eq_none.1 hf l hl
    simp [hs] at this
  | some l' => exact ⟨l', rfl, List.mem_of_find?_eq_some hf, by have := List.find?_some (p := fun l : List Sta => l.contains s) hf; exact this⟩
theorem needed_pairs {x : List (List Acc)} {s : Sta} (h : s ∈ neededL x) : (pairsL x).contains s = true ∧ isPair x s = true := by
  obtain ⟨h1, h2, _⟩ := (mem_needed_iff x).1 h
  refine ⟨?_, h2⟩
  rw [List.contains_eq_mem, decide_eq_true_eq]
  unfold pairsL
  exact List.mem_filter.2 ⟨h1, h2⟩
theorem needed_zero (x : List (List Acc)) : ((circles x).length = 0) ↔ ((neededL x).length = 0) := by
  rw [List.length_eq_zero_iff, List.length_eq_zero_iff]
  constructor
  · intro h
    rw [List.eq_nil_iff_forall_not_mem]
    intro s hs
    obtain ⟨_, _, l, hl, _⟩ := (mem_needed_iff x).1 hs
    rw [h] at hl; simp at hl
  · intro h
    rw [List.eq_nil_iff_forall_not_mem]
    intro l hl
    obtain ⟨h1, h2, h3, h4⟩ := mem_circles_iff.1 hl
    obtain ⟨s, hs, hp⟩ := circle_pair h4
    have : s ∈ neededL x := (mem_needed_iff x).2 ⟨h3 s hs, hp, l, hl, hs⟩
    rw [h] at this; simp at this
end Go.Am
