/- Own text: EL2. -/
import Derived.Test.YtalfdjihejohoaaD1fb
import Derived.Test.YtalfdjihejohoaaD1ga
set_option maxRecDepth 100000
set_option linter.unusedVariables false
set_option linter.unusedSimpArgs false
set_option linter.unusedSectionVars false
namespace Go.Am
open Go Go.Proofs
structure Ren (x y : List (List Acc)) (σ : Int → Int) : Prop where
  len : y.length = x.length
  rng : ∀ t : Int, 0 ≤ t → t < (y.length : Int) → 0 ≤ σ t ∧ σ t < (x.length : Int)
  row : ∀ t : Int, 0 ≤ t → t < (y.length : Int) → y[t.toNat]? = x[(σ t).toNat]?
  inj : ∀ t u : Int, 0 ≤ t → t < (y.length : Int) → 0 ≤ u → u < (y.length : Int) → σ t = σ u → t = u
def rhoS (σ : Int → Int) (s : Sta) : Sta := (σ s.1, s.2.1, s.2.2)
section
variable {x y : List (List Acc)} {σ : Int → Int} (R : Ren x y σ)
include R
theorem Ren.acc {t a : Int} (h0 : 0 ≤ t) (h1 : t < (y.length : Int)) : acc y t a = acc x (σ t) a := by
  unfold Am.acc; rw [R.row t h0 h1]
theorem Ren.there {t a : Int} (h0 : 0 ≤ t) (h1 : t < (y.length : Int)) : there y t a = there x (σ t) a := by
  unfold Am.there
  rw [R.row t h0 h1, decide_eq_true h0, decide_eq_true (R.rng t h0 h1).1]
theorem Ren.isPair {s : Sta} (h0 : 0 ≤ s.1) (h1 : s.1 < (y.length : Int)) : isPair y s = isPair x (rhoS σ s) := by
  unfold Am.isPair rhoS
  dsimp only
  rw [R.there h0 h1, R.there h0 h1, R.acc h0 h1, R.acc h0 h1]
theorem Ren.eq {t u : Int} (h0 : 0 ≤ t) (h1 : t < (y.length : Int)) (g0 : 0 ≤ u) (g1 : u < (y.length : Int)) : decide (t = u) = decide (σ t = σ u) :=
  decide_eq_decide.2 ⟨fun e => e ▸ rfl, R.inj t u h0 h1 g0 g1⟩
theorem Ren.conflict {t a u b : Int} (h0 : 0 ≤ t) (h1 : t < (y.length : Int)) (g0 : 0 ≤ u) (g1 : u < (y.length : Int)) : conflict y t a u b = conflict x (σ t) a (σ u) b := by
  unfold Am.conflict
  rw [R.acc h0 h1, R.acc g0 g1]
  congr 2
  have := R.eq h0 h1 g0 g1
  rw [decide_eq_decide] at this
  exact decide_eq_decide.2 (not_congr this)
theorem Ren.getD {t : Int} (h0 : 0 ≤ t) (h1 : t < (y.length : Int)) : y.getD t.toNat [] = x.getD (σ t).toNat [] := by
  rw [List.getD_eq_getElem?_getD, List.getD_eq_getElem?_getD, R.row t h0 h1]
theorem Ren.inS {s : Sta} (h : inS y s) : inS x (rhoS σ s) := by
  obtain ⟨h1, h2, h3, h4, h5, h6⟩ := h
  refine ⟨(R.rng _ h1 h2).1, (R.rng _ h1 h2).2, h3, h4, ?_, ?_⟩
  · show s.2.2 < ((x.getD (σ s.1).toNat []).length : Int)
    rw [← R.getD h1 h2]; exact h5
  · rcases h6 with h6 | h6
    · exact .inl h6
    · exact .inr (by rw [← R.isPair h1 h2]; exact h6)
theorem Ren.isCircle {l : List Sta} (h : ∀ s ∈ l, Am.inS y s) : isCircle y l = isCircle x (l.map (rhoS σ)) := by
  unfold Am.isCircle
  have hg : ∀ i, i < l.length → (l.map (rhoS σ)).getD i (0, 0, 0) = rhoS σ (l.getD i (0, 0, 0)) ∧ Am.inS y (l.getD i (0, 0, 0)) := fun i hi => by
    rw [List.getD_eq_getElem?_getD, List.getElem?_map, List.getD_eq_getElem?_getD, List.getElem?_eq_getElem hi]
    exact ⟨rfl, h _ (List.getElem_mem hi)⟩
  congr 1
  · rw [List.length_map]
    have : ∀ i ∈ List.range l.length, circAt y l i = circAt x (l.map (rhoS σ)) i := fun i hi => by
      have hi := List.mem_range.1 hi
      have h1 := hg i hi
      have h2 := hg ((i + 1) % l.length) (Nat.mod_lt _ (by omega))
      unfold circAt
      simp only [List.length_map]
      rw [h1.1, h2.1]
      obtain ⟨a1, a2, _⟩ := h1.2
      obtain ⟨b1, b2, _⟩ := h2.2
      rw [R.conflict a1 a2 b1 b2]
      congr 2
      rw [← List.map_take, List.any_map]
      refine any_congrM (fun u hu => ?_)
      obtain ⟨c1, c2, _⟩ := h u (List.mem_of_mem_take hu)
      exact R.eq c1 c2 a1 a2
    rw [Bool.eq_iff_iff, List.all_eq_true, List.all_eq_true]
    exact ⟨fun h i hi => by rw [← this i hi]; exact h i hi, fun h i hi => by rw [this i hi]; exact h i hi⟩
  · rw [List.any_map]
    refine any_congrM (fun s hs => ?_)
    obtain ⟨c1, c2, _⟩ := h s hs
    exact R.isPair c1 c2
where
  any_congrM {α : Type} {l : List α} {p q : α → Bool} (h : ∀ a ∈ l, p a = q a) : l.any p = l.any q := by
    induction l with
    | nil => rfl
    | cons a l ih => rw [List.any_cons, List.any_cons, h a (by simp), ih (fun b hb => h b (by simp [hb]))]
theorem Ren.rho_inj {s u : Sta} (hs : Am.inS y s) (hu : Am.inS y u) (h : rhoS σ s = rhoS σ u) : s = u := by
  obtain ⟨s1, s2, _⟩ := hs
  obtain ⟨u1, u2, _⟩ := hu
  obtain ⟨t, a, b⟩ := s
  obtain ⟨t', a', b'⟩ := u
  simp only [rhoS, Prod.mk.injEq] at h
  obtain ⟨h1, rfl, rfl⟩ := h
  rw [R.inj t t' s1 s2 u1 u2 h1]
theorem Ren.map_inj {l m : List Sta} (hl : ∀ s ∈ l, Am.inS y s) (hm : ∀ s ∈ m, Am.inS y s) (h : l.map (rhoS σ) = m.map (rhoS σ)) : l = m := by
  induction l generalizing m with
  | nil => cases m with
    | nil => rfl
    | cons _ _ => simp at h
  | cons a l ih => cases m with
    | nil => simp at h
    | cons b m =>
      simp only [List.map_cons, List.cons.injEq] at h
      rw [R.rho_inj (hl a (by simp)) (hm b (by simp)) h.1, ih (fun s hs => hl s (by simp [hs])) (fun s hs => hm s (by simp [hs])) h.2]
theorem Ren.circle {l : List Sta} (h : l ∈ circles y) : l.map (rhoS σ) ∈ circles x := by
  obtain ⟨h1, h2, h3, h4⟩ := mem_circles_iff.1 h
  have hin : ∀ s ∈ l, Am.inS y s := fun s hs => mem_stations_iff.1 (h3 s hs)
  refine mem_circles_iff.2 ⟨by simpa using h1, by simpa using h2, fun s hs => ?_, by rw [← R.isCircle hin]; exact h4⟩
  obtain ⟨u, hu, rfl⟩ := List.mem_map.1 hs
  exact mem_stations_iff.2 (R.inS (hin u hu))
theorem Ren.circ_in {l : List Sta} (h : l ∈ circles y) : ∀ s ∈ l, Am.inS y s := fun s hs => mem_stations_iff.1 ((mem_circles_iff.1 h).2.2.1 s hs)
theorem Ren.nCirc_le : nCirc y ≤ nCirc x :=
  length_le_of_inj (List.map (rhoS σ)) (circles_nodup y) (fun a ha b hb h => R.map_inj (R.circ_in ha) (R.circ_in hb) h) (fun l hl => R.circle hl)
theorem Ren.needed {s : Sta} (h : s ∈ neededL y) : rhoS σ s ∈ neededL x := by
  obtain ⟨h1, h2, l, hl, hs⟩ := (mem_needed_iff y).1 h
  have hin := mem_stations_iff.1 h1
  exact (mem_needed_iff x).2 ⟨mem_stations_iff.2 (R.inS hin), by rw [← R.isPair hin.1 hin.2.1]; exact h2, _, R.circle hl, List.mem_map_of_mem hs⟩
end
section
variable {x : List (List Acc)} {l : List Int} (ht : threadsB x.length l = true)
include ht
theorem threads_len : l.length = x.length := by
  unfold threadsB at ht
  simp only [Bool.and_eq_true, decide_eq_true_eq] at ht
  exact ht.2
theorem threads_at (i : Nat) (hi : i < l.length) : 0 ≤ l.getD i 0 ∧ l.getD i 0 < (x.length : Int) ∧ ∀ j, j < i → l.getD j 0 ≠ l.getD i 0 := by
  unfold threadsB at ht
  simp only [Bool.and_eq_true, decide_eq_true_eq, List.all_eq_true, List.mem_range] at ht
  have := ht.1 i hi
  unfold thAt at this
  simp only [Bool.and_eq_true, decide_eq_true_eq, Bool.not_eq_true', List.contains_eq_mem, decide_eq_false_iff_not] at this
  refine ⟨this.1.1, by omega, fun j hj e => this.2 ?_⟩
  rw [← e, List.getD_eq_getElem?_getD, List.getElem?_eq_getElem (by omega), Option.getD_some]
  have : l[j] = (l.take i)[j]'(by simp; omega) := by rw [List.getElem_take]
  rw [this]
  exact List.getElem_mem _
theorem threads_inj {i j : Nat} (hi : i < l.length) (hj : j < l.length) (h : l.getD i 0 = l.getD j 0) : i = j := by
  rcases Nat.lt_trichotomy i j with h1 | h1 | h1
  · exact absurd h ((threads_at ht j hj).2.2 i h1)
  · exact h1
  · exact absurd h.symm ((threads_at ht i hi).2.2 j h1)
theorem renamed_len : (renamed x l).length = x.length := by unfold renamed; rw [List.length_map]; exact threads_len ht
theorem renamed_get {t : Nat} (h1 : t < l.length) : (renamed x l)[t]? = x[(l.getD t 0).toNat]? := by
  unfold renamed
  have h2 := threads_at ht t h1
  rw [List.getElem?_map, List.getElem?_eq_getElem h1, Option.map_some]
  have e : l.getD t 0 = l[t] := by rw [List.getD_eq_getElem?_getD, List.getElem?_eq_getElem h1]; rfl
  rw [← e, List.getD_eq_getElem?_getD, List.getElem?_eq_getElem (by omega)]
  rfl
theorem ren_of : Ren x (renamed x l) (fun t => l.getD t.toNat 0) := by
  have hlen := renamed_len ht
  have hll := threads_len ht
  refine ⟨hlen, fun t h0 h1 => ?_, fun t h0 h1 => ?_, fun t u h0 h1 g0 g1 e => ?_⟩
  · have := threads_at ht t.toNat (by omega)
    exact ⟨this.1, this.2.1⟩
  · exact renamed_get ht (by omega)
  · have := threads_inj ht (i := t.toNat) (j := u.toNat) (by omega) (by omega) e
    omega
def plc (l : List Int) (t : Int) : Int := ((l.findIdx fun n => decide (n = t) : Nat) : Int)
theorem hit {t : Int} (h0 : 0 ≤ t) (h1 : t < (x.length : Int)) : t ∈ l := by
  have hll := threads_len ht
  have hnd : l.Nodup := by
    rw [List.nodup_iff_pairwise_ne, List.pairwise_iff_getElem]
    intro i j hi hj hij e
    have := threads_inj ht hi hj (by rw [List.getD_eq_getElem?_getD, List.getD_eq_getElem?_getD, List.getElem?_eq_getElem hi, List.getElem?_eq_getElem hj, e])
    omega
  rcases Classical.em (t ∈ l) with h | h
  · exact h
  exfalso
  have hsub : ∀ a ∈ t :: l, a ∈ (List.range x.length).map (fun i : Nat => (i : Int)) := by
    intro a ha
    rcases List.mem_cons.1 ha with rfl | ha
    · exact List.mem_map.2 ⟨a.toNat, List.mem_range.2 (by omega), by omega⟩
    · obtain ⟨i, hi, rfl⟩ := List.getElem_of_mem ha
      have := threads_at ht i hi
      rw [List.getD_eq_getElem?_getD, List.getElem?_eq_getElem hi, Option.getD_some] at this
      exact List.mem_map.2 ⟨l[i].toNat, List.mem_range.2 (by omega), by omega⟩
  have := length_le_of_nodup (List.nodup_cons.2 ⟨h, hnd⟩) hsub
  simp at this
  omega
theorem plc_at {t : Int} (h0 : 0 ≤ t) (h1 : t < (x.length : Int)) : 0 ≤ plc l t ∧ plc l t < (x.length : Int) ∧ l.getD (plc l t).toNat 0 = t := by
  have hm := hit ht h0 h1
  have hll := threads_len ht
  have hlt : (l.findIdx fun n => decide (n = t)) < l.length := List.findIdx_lt_length_of_exists ⟨t, hm, by simp⟩
  refine ⟨by unfold plc; omega, by unfold plc; omega, ?_⟩
  have := List.findIdx_getElem (p := fun n => decide (n = t)) (xs := l) (w := hlt)
  simp only [decide_eq_true_eq] at this
  unfold plc
  rw [Int.toNat_natCast, List.getD_eq_getElem?_getD, List.getElem?_eq_getElem hlt]
  exact this
theorem ren_back : Ren (renamed x l) x (plc l) := by
  have hlen := renamed_len ht
  have hll := threads_len ht
  refine ⟨hlen.symm, fun t h0 h1 => ?_, fun t h0 h1 => ?_, fun t u h0 h1 g0 g1 e => ?_⟩
  · have := plc_at ht h0 h1
    exact ⟨this.1, by rw [hlen]; exact this.2.1⟩
  · have := plc_at ht h0 h1
    rw [renamed_get ht (t := (plc l t).toNat) (by omega), this.2.2]
  · have h2 := plc_at ht h0 h1
    have g2 := plc_at ht g0 g1
    rw [← h2.2.2, ← g2.2.2, e]
theorem nCirc_renamed : nCirc (renamed x l) = nCirc x := Nat.le_antisymm (ren_of ht).nCirc_le (ren_back ht).nCirc_le
theorem valid_renamed (hv : valid x = true) : valid (renamed x l) = true := by
  unfold valid at *
  rw [renamed_len ht]
  simp only [Bool.and_eq_true, Bool.not_eq_true'] at *
  refine ⟨hv.1, ?_⟩
  rw [List.any_eq_false] at *
  intro r hr
  obtain ⟨i, hi, rfl⟩ := List.getElem_of_mem hr
  have hi' : i < l.length := by rw [renamed_len ht] at hi; rw [threads_len ht]; exact hi
  have h2 := threads_at ht i hi'
  have := renamed_get ht hi'
  rw [List.getElem?_eq_getElem hi, List.getElem?_eq_getElem (by omega)] at this
  rw [Option.some.inj this]
  exact hv.2 _ (List.getElem_mem _)
end
end Go.Am

set_option maxRecDepth 100000
set_option linter.unusedVariables false
set_option linter.unusedSimpArgs false
set_option linter.unusedSectionVars false
namespace Go.Am
open Go Go.Proofs
def pickL {α : Type} (i : Nat) : Nat → List α → List α
  | _, [] => []
  | k, a :: r => bif i.testBit k then a :: pickL i (k + 1) r else pickL i (k + 1) r
theorem pickL_snoc {α : Type} (i : Nat) (a : α) : ∀ (l : List α) (k : Nat), pickL i k (l ++ [a]) = pickL i k l ++ (bif i.testBit (k + l.length) then [a] else [])
  | [], k => by simp only [List.nil_append, pickL, List.length_nil, Nat.add_zero]
  | b :: l, k => by
    rw [List.cons_append]
    unfold pickL
    rw [pickL_snoc i a l (k + 1), List.length_cons, show k + 1 + l.length = k + (l.length + 1) by omega]
    cases i.testBit k <;> rfl
theorem pickL_sub {α : Type} (i : Nat) : ∀ (l : List α) (k : Nat), (pickL i k l).Sublist l
  | [], _ => .slnil
  | a :: l, k => by
    unfold pickL
    cases i.testBit k with
    | true => exact (pickL_sub i l (k + 1)).cons_cons a
    | false => exact (pickL_sub i l (k + 1)).cons a
theorem pickL_congr {α : Type} {i i' : Nat} : ∀ (l : List α) (k : Nat), (∀ j, k ≤ j → i.testBit j = i'.testBit j) → pickL i k l = pickL i' k l
  | [], _, _ => rfl
  | a :: l, k, h => by
    unfold pickL
    rw [h k (Nat.le_refl _), pickL_congr l (k + 1) (fun j hj => h j (by omega))]
theorem pickL_all {α : Type} : ∀ (l S : List α) (k : Nat), S.Sublist l → ∃ i, i < 2 ^ (k + l.length) ∧ (∀ j, j < k → i.testBit j = false) ∧ pickL i k l = S
  | [], S, k, h => by
    cases h
    exact ⟨0, Nat.two_pow_pos _, fun _ _ => Nat.zero_testBit _, rfl⟩
  | a :: l, S, k, h => by
    cases h with
    | cons _ h =>
      obtain ⟨i, h1, h2, h3⟩ := pickL_all l S (k + 1) h
      refine ⟨i, by rw [List.length_cons, show k + (l.length + 1) = k + 1 + l.length by omega]; exact h1, fun j hj => h2 j (by omega), ?_⟩
      unfold pickL
      rw [h2 k (by omega), cond_false, h3]
    | cons_cons _ h =>
      rename_i S'
      obtain ⟨i, h1, h2, h3⟩ := pickL_all l S' (k + 1) h
      refine ⟨i ||| 2 ^ k, ?_, fun j hj => ?_, ?_⟩
      · rw [List.length_cons, show k + (l.length + 1) = k + 1 + l.length by omega]
        exact Nat.or_lt_two_pow h1 (Nat.pow_lt_pow_right (by decide) (by omega))
      · rw [Nat.testBit_or, h2 j (by omega), Nat.testBit_two_pow]; simp; omega
      · unfold pickL
        rw [Nat.testBit_or, Nat.testBit_two_pow_self, Bool.or_true, cond_true]
        congr 1
        rw [← h3]
        refine pickL_congr l (k + 1) (fun j hj => ?_)
        rw [Nat.testBit_or, Nat.testBit_two_pow]
        have : ¬ k = j := by omega
        simp [this]
def Least (x : List (List Acc)) (c : List (List Int)) (v : Int) : Prop :=
  (∃ S, S.Sublist (fencesL x) ∧ enoughF S (neededL x) = true ∧ costF c S = v) ∧ ∀ S, S.Sublist (fencesL x) → enoughF S (neededL x) = true → v ≤ costF c S
theorem sum_perm {l m : List Int} (h : l.Perm m) : l.sum = m.sum := by
  induction h with
  | nil => rfl
  | cons a _ ih => simp only [List.sum_cons, ih]
  | swap a b l => simp only [List.sum_cons]; omega
  | trans _ _ h1 h2 => rw [h1, h2]
theorem fencesL_nodup (x : List (List Acc)) : (fencesL x).Nodup := by
  unfold fencesL fenT
  refine nodup_flatMap List.nodup_range (fun t _ => ?_) (fun t _ u _ hne y hy z hz => ?_)
  · unfold fenRow
    refine List.Pairwise.map _ ?_ List.nodup_range
    intro a b h e
    simp only [Prod.mk.injEq, true_and] at e
    exact h (Int.ofNat_inj.1 e)
  · unfold fenRow at hy hz
    obtain ⟨_, _, rfl⟩ := List.mem_map.1 hy
    obtain ⟨_, _, rfl⟩ := List.mem_map.1 hz
    simp; omega
def phiF (σ : Int → Int) (f : Fen) : Fen := (σ f.1, f.2)
section
variable {x y : List (List Acc)} {σ τ : Int → Int} {c c' : List (List Int)}
theorem Ren.fence (R : Ren x y σ) {f : Fen} (h : f ∈ fencesL y) : phiF σ f ∈ fencesL x := by
  obtain ⟨h1, h2, h3, h4⟩ := mem_fencesL.1 h
  have := R.rng _ h1 h2
  refine mem_fencesL.2 ⟨this.1, this.2, h3, ?_⟩
  show f.2 < rl x (σ f.1) - 1
  unfold rl at h4 ⊢
  rw [← R.getD h1 h2]; exact h4
theorem Ren.carry (R : Ren x y σ) (Q : Ren y x τ) (hback : ∀ t : Int, 0 ≤ t → t < (x.length : Int) → σ (τ t) = t) (hc : ∀ f ∈ fencesL y, priceF c (phiF σ f) = priceF c' f)
    {S : List Fen} (hs : S.Sublist (fencesL y)) (he : enoughF S (neededL y) = true) : ∃ S', S'.Sublist (fencesL x) ∧ enoughF S' (neededL x) = true ∧ costF c S' = costF c' S := by
  have hmem : ∀ f ∈ S, phiF σ f ∈ fencesL x := fun f hf => R.fence (hs.subset hf)
  refine ⟨(fencesL x).filter fun f => (S.map (phiF σ)).contains f, List.filter_sublist, ?_, ?_⟩
  · unfold enoughF at he ⊢
    rw [List.all_eq_true] at he ⊢
    intro s hns
    have h1 := he _ (Q.needed hns)
    unfold heldF at h1 ⊢
    rw [List.any_eq_true] at h1 ⊢
    obtain ⟨f, hf, hh⟩ := h1
    refine ⟨phiF σ f, List.mem_filter.2 ⟨hmem f hf, by rw [List.contains_eq_mem, decide_eq_true_eq]; exact List.mem_map_of_mem hf⟩, ?_⟩
    have hin := mem_stations_iff.1 ((mem_needed_iff x).1 hns).1
    unfold holdsF at hh ⊢
    unfold phiF rhoS at *
    simp only [Bool.and_eq_true, decide_eq_true_eq] at hh ⊢
    refine ⟨⟨?_, hh.1.2⟩, hh.2⟩
    rw [hh.1.1]
    exact hback _ hin.1 hin.2.1
  · have hperm : ((fencesL x).filter fun f => (S.map (phiF σ)).contains f).Perm (S.map (phiF σ)) := by
      refine (List.perm_ext_iff_of_nodup (List.Pairwise.filter _ (fencesL_nodup x)) ?_).2 (fun f => ?_)
      · have hnd : S.Nodup := (fencesL_nodup y).sublist hs
        unfold List.Nodup at hnd ⊢
        rw [List.pairwise_map]
        refine hnd.imp_of_mem (fun {a b} ha hb hne e => hne ?_)
        obtain ⟨a1, a2, _⟩ := mem_fencesL.1 (hs.subset ha)
        obtain ⟨b1, b2, _⟩ := mem_fencesL.1 (hs.subset hb)
        obtain ⟨t, u⟩ := a
        obtain ⟨t', u'⟩ := b
        simp only [phiF, Prod.mk.injEq] at e
        rw [R.inj t t' a1 a2 b1 b2 e.1, e.2]
      · rw [List.mem_filter, List.contains_eq_mem, decide_eq_true_eq]
        refine ⟨fun h => h.2, fun h => ⟨?_, h⟩⟩
        obtain ⟨g, hg, rfl⟩ := List.mem_map.1 h
        exact hmem g hg
    unfold costF
    rw [sum_perm (hperm.map (priceF c)), List.map_map]
    congr 1
    exact List.map_congr_left (fun f hf => hc f (hs.subset hf))
theorem Ren.least (R : Ren x y σ) (Q : Ren y x τ) (hback : ∀ t : Int, 0 ≤ t → t < (x.length : Int) → σ (τ t) = t) (hback' : ∀ t : Int, 0 ≤ t → t < (y.length : Int) → τ (σ t) = t)
    (hc : ∀ f ∈ fencesL y, priceF c (phiF σ f) = priceF c' f) (hc' : ∀ f ∈ fencesL x, priceF c' (phiF τ f) = priceF c f) {v w : Int} (hv : Least x c v) (hw : Least y c' w) : v = w := by
  obtain ⟨⟨S, h1, h2, h3⟩, h4⟩ := hv
  obtain ⟨⟨T, g1, g2, g3⟩, g4⟩ := hw
  obtain ⟨S', a1, a2, a3⟩ := R.carry Q hback hc g1 g2
  obtain ⟨T', b1, b2, b3⟩ := Q.carry R hback' hc' h1 h2
  have := h4 S' a1 a2
  have := g4 T' b1 b2
  omega
end
end Go.Am
