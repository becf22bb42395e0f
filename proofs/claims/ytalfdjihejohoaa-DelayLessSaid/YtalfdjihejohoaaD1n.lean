/- Own text: D1n. -/
import Derived.Test.YtalfdjihejohoaaD1m
set_option maxRecDepth 100000
set_option linter.unusedVariables false
set_option linter.unusedSimpArgs false
namespace Go.Am
open Go Go.Proofs
section
variable (T A : Nat) (x : List (List Acc))

theorem shN_le (t a b : Nat) : (shN T A t a ≤ shN T A t b) ↔ a ≤ b := by unfold shN; split <;> split <;> omega
theorem shN_eq (t a b : Nat) : (shN T A t a = shN T A t b) ↔ a = b := by unfold shN; split <;> split <;> omega

theorem staB_less (t a n n' : Nat) (hn : ((List.range n').map (shN T A t)).Sublist (List.range n)) : ((staB (lessX x T A) t a n').map (shS T A)).Sublist (staB x t (shN T A t a) n) := by
  unfold staB
  have h1 : ∀ l : List Nat, ((l.filter fun (b : Nat) => decide (a ≤ b) && (decide (a = b) || isPair (lessX x T A) ((t : Int), (a : Int), (b : Int)))).map fun (b : Nat) => ((t : Int), (a : Int), (b : Int))).map (shS T A) =
      (((l.map (shN T A t)).filter fun (b : Nat) => decide (shN T A t a ≤ b) && (decide (shN T A t a = b) || isPair x ((t : Int), (shN T A t a : Int), (b : Int)))).map fun (b : Nat) => ((t : Int), (shN T A t a : Int), (b : Int))) := fun l => by
    rw [List.filter_map, List.map_map, List.map_map]
    have : ∀ b : Nat, ((fun (b : Nat) => decide (shN T A t a ≤ b) && (decide (shN T A t a = b) || isPair x ((t : Int), (shN T A t a : Int), (b : Int)))) ∘ shN T A t) b =
        (decide (a ≤ b) && (decide (a = b) || isPair (lessX x T A) ((t : Int), (a : Int), (b : Int)))) := fun b => by
      simp only [Function.comp]
      rw [isPair_less T A x (s := ((t : Int), (a : Int), (b : Int))) ⟨by simp, by simp, by simp⟩]
      simp only [shS, sh_nat, shN_le, shN_eq]
    rw [List.filter_congr (fun b _ => this b)]
    exact List.map_congr_left (fun b _ => by simp [shS, sh_nat])
  rw [h1]
  exact (hn.filter _).map _

theorem staT_less : ((stations (lessX x T A)).map (shS T A)).Sublist (stations x) := by
  unfold stations staT
  rw [List.map_flatMap, lessX_length]
  refine sub_flatMap (fun t ht => ?_)
  have ht := List.mem_range.1 ht
  have hr : ((List.range ((lessX x T A).getD t []).length).map (shN T A t)).Sublist (List.range (x.getD t []).length) := by
    rw [less_getD T A x t ht]
    have := range_sh T A t (x.getD t []).length
    by_cases h : t = T
    · rw [if_pos h, lessL_len]
      simpa [h] using this
    · rw [if_neg h]
      simpa [h] using this
  generalize ((lessX x T A).getD t []).length = n' at hr
  generalize (x.getD t []).length = n at hr
  unfold staA
  rw [List.map_flatMap]
  refine (sub_flatMap (fun a _ => staB_less T A x t a n n' hr)).trans ?_
  have : ((List.range n').flatMap fun a => staB x t (shN T A t a) n) = ((List.range n').map (shN T A t)).flatMap fun a => staB x t a n := by rw [List.flatMap_map]
  rw [this]
  exact flatMap_sub hr

theorem isCircle_less {l : List Sta} (h : ∀ s ∈ l, nn s) : isCircle (lessX x T A) l = isCircle x (l.map (shS T A)) := by
  unfold isCircle
  have hg : ∀ i, i < l.length → (l.map (shS T A)).getD i (0, 0, 0) = shS T A (l.getD i (0, 0, 0)) ∧ nn (l.getD i (0, 0, 0)) := fun i hi => by
    rw [List.getD_eq_getElem?_getD, List.getElem?_map, List.getD_eq_getElem?_getD, List.getElem?_eq_getElem hi]
    exact ⟨rfl, h _ (List.getElem_mem hi)⟩
  congr 1
  · rw [List.length_map]
    have : ∀ i ∈ List.range l.length, circAt (lessX x T A) l i = circAt x (l.map (shS T A)) i := fun i hi => by
      have hi := List.mem_range.1 hi
      have h1 := hg i hi
      have h2 := hg ((i + 1) % l.length) (Nat.mod_lt _ (by omega))
      unfold circAt
      simp only [List.length_map]
      rw [h1.1, h2.1, conflict_less T A x h1.2.1 h1.2.2.2 h2.2.1 h2.2.2.1]
      congr 2
      rw [← List.map_take, List.any_map]
      rfl
    rw [Bool.eq_iff_iff, List.all_eq_true, List.all_eq_true]
    exact ⟨fun h i hi => by rw [← this i hi]; exact h i hi, fun h i hi => by rw [this i hi]; exact h i hi⟩
  · rw [List.any_map]
    rw [Bool.eq_iff_iff, List.any_eq_true, List.any_eq_true]
    exact ⟨fun ⟨s, hs, hp⟩ => ⟨s, hs, by simp only [Function.comp]; rw [← isPair_less T A x (h s hs)]; exact hp⟩, fun ⟨s, hs, hp⟩ => ⟨s, hs, by rw [isPair_less T A x (h s hs)]; exact hp⟩⟩

theorem nextOk_less {l : List Sta} (h : ∀ s ∈ l, nn s) {st : Sta} (hst : nn st) : nextOk (lessX x T A) l st = nextOk x (l.map (shS T A)) (shS T A st) := by
  unfold nextOk
  rw [List.length_map]
  by_cases h0 : l.length = 0
  · rw [decide_eq_true h0]; rfl
  · rw [decide_eq_false h0]
    have hi : l.length - 1 < l.length := by omega
    have h1 : lastOf (l.map (shS T A)) = shS T A (lastOf l) ∧ nn (lastOf l) := by
      unfold lastOf
      rw [List.length_map, List.getD_eq_getElem?_getD, List.getElem?_map, List.getD_eq_getElem?_getD, List.getElem?_eq_getElem hi]
      exact ⟨rfl, h _ (List.getElem_mem hi)⟩
    rw [h1.1, conflict_less T A x h1.2.1 h1.2.2.2 hst.1 hst.2.1]
    rfl

theorem circFrom_less {all all' : List Sta} (hs : (all'.map (shS T A)).Sublist all) (hn : ∀ s ∈ all', nn s) : ∀ (k : Nat) (l : List Sta), (∀ s ∈ l, nn s) →
    ((circFrom (lessX x T A) all' k l).map (List.map (shS T A))).Sublist (circFrom x all k (l.map (shS T A))) := by
  have hh : ∀ l : List Sta, (∀ s ∈ l, nn s) → (circHere (lessX x T A) l).map (List.map (shS T A)) = circHere x (l.map (shS T A)) := fun l hl => by
    unfold circHere
    rw [List.length_map, isCircle_less T A x hl]
    split <;> rfl
  intro k
  induction k with
  | zero => intro l hl; unfold circFrom; rw [hh l hl]; exact List.Sublist.refl _
  | succ k ih =>
    intro l hl
    rw [circFrom, circFrom, List.map_append, hh l hl]
    refine (List.Sublist.refl _).append ?_
    rw [List.map_flatMap]
    have h1 : (all'.flatMap fun st => (if nextOk (lessX x T A) l st then circFrom (lessX x T A) all' k (l ++ [st]) else []).map (List.map (shS T A))).Sublist
        (all'.flatMap fun st => if nextOk x (l.map (shS T A)) (shS T A st) then circFrom x all k (l.map (shS T A) ++ [shS T A st]) else []) := by
      refine sub_flatMap (fun st hst => ?_)
      rw [nextOk_less T A x hl (hn st hst)]
      split
      · have := ih (l ++ [st]) (fun s hs => by
          rcases List.mem_append.1 hs with h | h
          · exact hl s h
          · simp at h; subst h; exact hn _ hst)
        rw [List.map_append] at this
        exact this
      · simp
    refine h1.trans ?_
    have h2 : (all'.flatMap fun st => if nextOk x (l.map (shS T A)) (shS T A st) then circFrom x all k (l.map (shS T A) ++ [shS T A st]) else []) =
        (all'.map (shS T A)).flatMap fun st => if nextOk x (l.map (shS T A)) st then circFrom x all k (l.map (shS T A) ++ [st]) else [] := by rw [List.flatMap_map]
    rw [h2]
    exact flatMap_sub hs

theorem law1 : nCirc (lessX x T A) ≤ nCirc x := by
  unfold nCirc circles
  have := (circFrom_less T A x (staT_less T A x) (fun s hs => by
    have := mem_stations hs
    unfold isThere at this
    simp only [Bool.and_eq_true] at this
    obtain ⟨h1, h2, _⟩ := there_get this.1
    obtain ⟨_, h3, _⟩ := there_get this.2
    exact ⟨h1, h2, h3⟩) 3 [] (by simp)).length_le
  simpa using this
end

theorem DelayLess_ok (x : List (List Acc)) (th ac : Int) (hx : Big x) (h1 : 0 ≤ th ∧ th < 256) (h2 : 0 ≤ ac ∧ ac < 256) :
    ACall P 3 [.d (dX x), .d (.int .u8 th), .d (.int .u8 ac)] [] (AB true) [] :=
  less_ok x th ac hx h1 h2 (fun t a _ => law1 t a x) (fun t a _ => law2 t a x)
end Go.Am
