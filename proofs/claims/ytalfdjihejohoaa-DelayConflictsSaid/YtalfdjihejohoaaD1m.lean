/- Own text: D1m. -/
import Derived.Test.YtalfdjihejohoaaD1l
set_option maxRecDepth 100000
set_option linter.unusedVariables false
set_option linter.unusedSimpArgs false
namespace Go.Am
open Go Go.Proofs

/-! ### Lists -/
theorem sub_flatMap {α β : Type} {g g' : α → List β} : ∀ {l : List α}, (∀ t ∈ l, (g' t).Sublist (g t)) → (l.flatMap g').Sublist (l.flatMap g)
  | [], _ => by simp
  | t :: r, h => by
    simp only [List.flatMap_cons]
    exact (h t (by simp)).append (sub_flatMap (fun u hu => h u (by simp [hu])))
theorem flatMap_sub {α β : Type} {g : α → List β} {l l' : List α} (h : l'.Sublist l) : (l'.flatMap g).Sublist (l.flatMap g) := by
  induction h with
  | slnil => simp
  | cons a _ ih => simp only [List.flatMap_cons]; exact ih.trans (List.sublist_append_right _ _)
  | cons_cons a _ ih => simp only [List.flatMap_cons]; exact (List.Sublist.refl _).append ih

/-- Pairs of an earlier and a later one. -/
def pc {α : Type} (r : α → α → Bool) : List α → Nat
  | [] => 0
  | s :: l => pc r l + l.countP fun u => r u s
theorem pc_snoc {α : Type} (r : α → α → Bool) (s : α) : ∀ l : List α, pc r (l ++ [s]) = pc r l + l.countP (r s)
  | [] => by simp [pc]
  | u :: l => by
    simp only [List.cons_append, pc, pc_snoc r s l, List.countP_append, List.countP_cons, List.countP_nil]
    omega
theorem pc_sub {α : Type} (r : α → α → Bool) {l l' : List α} (h : l'.Sublist l) : pc r l' ≤ pc r l := by
  induction h with
  | slnil => exact Nat.le_refl _
  | cons a _ ih => simp only [pc]; omega
  | cons_cons a hs ih => simp only [pc]; have := hs.countP_le (p := fun u => r u a); omega
theorem pc_map {α β : Type} (r : β → β → Bool) (f : α → β) : ∀ l : List α, pc r (l.map f) = pc (fun u s => r (f u) (f s)) l
  | [] => rfl
  | s :: l => by simp only [List.map_cons, pc, pc_map r f l, List.countP_map]; rfl
theorem pc_congr {α : Type} {r r' : α → α → Bool} : ∀ {l : List α}, (∀ u ∈ l, ∀ s ∈ l, r u s = r' u s) → pc r l = pc r' l
  | [], _ => rfl
  | s :: l, h => by
    simp only [pc]
    rw [pc_congr (l := l) (fun u hu v hv => h u (by simp [hu]) v (by simp [hv]))]
    congr 1
    exact List.countP_congr (fun u hu => by rw [h u (by simp [hu]) s (by simp)])
theorem nConf_eq (x : List (List Acc)) : nConf x = pc (conf x) (spots x) := by
  have : ∀ i, i ≤ (spots x).length → (List.range i).foldl (fun n i => n + confAt x i) 0 = pc (conf x) ((spots x).take i) := by
    intro i
    induction i with
    | zero => intro _; simp [pc]
    | succ i ih =>
      intro hi
      rw [foldl_range_succ, ih (by omega), List.take_add_one, List.getElem?_eq_getElem (by omega)]
      simp only [Option.toList_some]
      rw [pc_snoc]
      unfold confAt
      rw [List.getD_eq_getElem?_getD, List.getElem?_eq_getElem (by omega)]
      rfl
  unfold nConf
  rw [this _ (Nat.le_refl _), List.take_length]

/-! ### An access less -/
section
variable (T A : Nat)
def sh (t : Int) (a : Int) : Int := if t = T ∧ (A : Int) ≤ a then a + 1 else a
def shN (t : Nat) (a : Nat) : Nat := if t = T ∧ A ≤ a then a + 1 else a
def shS (s : Sta) : Sta := (s.1, sh T A s.1 s.2.1, sh T A s.1 s.2.2)
def shP (s : Int × Int) : Int × Int := (s.1, sh T A s.1 s.2)
theorem sh_nat (t a : Nat) : sh T A (t : Int) (a : Int) = (shN T A t a : Int) := by
  unfold sh shN
  split <;> split <;> omega
theorem range_sh (t : Nat) : ∀ (n : Nat), ((List.range (if t = T ∧ A < n then n - 1 else n)).map (shN T A t)).Sublist (List.range n) := by
  intro n
  induction n with
  | zero => simp
  | succ n ih =>
    by_cases h : t = T ∧ A < n + 1
    · rw [if_pos h]
      by_cases h2 : A < n
      · rw [if_pos ⟨h.1, h2⟩] at ih
        obtain ⟨k, rfl⟩ : ∃ k, n = k + 1 := ⟨n - 1, by omega⟩
        simp only [Nat.add_sub_cancel] at ih ⊢
        rw [List.range_succ, List.range_succ (n := k + 1), List.map_append]
        refine ih.append ?_
        simp [shN, h.1]
        omega
      · have : (List.range n).map (shN T A t) = List.range n := by
          conv => rhs; rw [← List.map_id (List.range n)]
          exact List.map_congr_left (fun b hb => by have := List.mem_range.1 hb; unfold shN; rw [if_neg (by omega)]; rfl)
        simp only [Nat.add_sub_cancel]
        rw [this, List.range_succ]
        exact List.sublist_append_left _ _
    · rw [if_neg h]
      have : (List.range (n + 1)).map (shN T A t) = List.range (n + 1) := by
        conv => rhs; rw [← List.map_id (List.range (n + 1))]
        exact List.map_congr_left (fun b hb => by have := List.mem_range.1 hb; unfold shN; rw [if_neg (by omega)]; rfl)
      rw [this]
      exact List.Sublist.refl _

variable (x : List (List Acc))
theorem less_getD (t : Nat) (ht : t < x.length) : (lessX x T A).getD t [] = if t = T then lessL (x.getD t []) A else x.getD t [] := by
  unfold lessX
  rw [List.getD_eq_getElem?_getD, List.getElem?_map, List.getElem?_range ht]
  rfl
theorem less_get? (t : Nat) : (lessX x T A)[t]? = (x[t]?).map fun l => if t = T then lessL l A else l := by
  unfold lessX
  rw [List.getElem?_map]
  rcases Nat.lt_or_ge t x.length with h | h
  · rw [List.getElem?_range h, List.getElem?_eq_getElem h]
    simp only [Option.map_some, List.getD_eq_getElem?_getD, List.getElem?_eq_getElem h, Option.getD_some]
  · rw [List.getElem?_eq_none (by simpa using h), List.getElem?_eq_none h]; rfl
theorem lessL_get (l : List Acc) (b : Nat) : (lessL l A)[b]? = l[if A ≤ b then b + 1 else b]? := by
  unfold lessL
  rcases Nat.lt_or_ge b A with h | h
  · rw [if_neg (by omega)]
    rcases Nat.lt_or_ge b l.length with h2 | h2
    · rw [List.getElem?_append_left (by simp; omega), List.getElem?_take_of_lt h]
    · rw [List.getElem?_append_right (by simp; omega), List.getElem?_eq_none h2, List.getElem?_eq_none (by simp; omega)]
  · rw [if_pos h]
    rcases Nat.lt_or_ge A l.length with h2 | h2
    · rw [List.getElem?_append_right (by simp; omega), List.getElem?_drop]
      congr 1
      simp; omega
    · rw [List.getElem?_eq_none (by simp; omega), List.getElem?_eq_none (by omega)]
theorem lessL_len (l : List Acc) : (lessL l A).length = if A < l.length then l.length - 1 else l.length := by
  unfold lessL
  split <;> simp <;> omega
theorem acc_less {t a : Int} (ht : 0 ≤ t) (ha : 0 ≤ a) : acc (lessX x T A) t a = acc x t (sh T A t a) := by
  unfold acc
  rw [less_get?]
  cases hx : x[t.toNat]? with
  | none => rfl
  | some l =>
    simp only [Option.map_some, Option.bind_some]
    by_cases h : t.toNat = T
    · rw [if_pos h, lessL_get]
      unfold sh
      congr 2
      by_cases h2 : A ≤ a.toNat
      · rw [if_pos h2, if_pos (by omega)]; omega
      · rw [if_neg h2, if_neg (by omega)]
    · rw [if_neg h]
      unfold sh
      rw [if_neg (by omega)]
theorem there_less {t a : Int} (ht : 0 ≤ t) (ha : 0 ≤ a) : there (lessX x T A) t a = there x t (sh T A t a) := by
  unfold there
  rw [less_get?]
  cases hx : x[t.toNat]? with
  | none => rfl
  | some l =>
    simp only [Option.map_some]
    by_cases h : t.toNat = T
    · rw [if_pos h, lessL_len]
      unfold sh
      by_cases h2 : (A : Int) ≤ a
      · have e : (if t = (T : Int) ∧ (A : Int) ≤ a then a + 1 else a) = a + 1 := if_pos ⟨by omega, h2⟩
        rw [e]
        split <;> congr 2 <;> simp <;> omega
      · have e : (if t = (T : Int) ∧ (A : Int) ≤ a then a + 1 else a) = a := if_neg (by omega)
        rw [e]
        split <;> congr 2 <;> simp <;> omega
    · rw [if_neg h]
      unfold sh
      rw [if_neg (by omega)]
theorem conflict_less {t a u b : Int} (ht : 0 ≤ t) (ha : 0 ≤ a) (hu : 0 ≤ u) (hb : 0 ≤ b) : conflict (lessX x T A) t a u b = conflict x t (sh T A t a) u (sh T A u b) := by
  unfold conflict
  rw [acc_less T A x ht ha, acc_less T A x hu hb]
theorem sh_lt {t a b : Int} : (sh T A t a < sh T A t b) ↔ a < b := by unfold sh; split <;> split <;> omega
def nn (s : Sta) : Prop := 0 ≤ s.1 ∧ 0 ≤ s.2.1 ∧ 0 ≤ s.2.2
theorem isPair_less {s : Sta} (h : nn s) : isPair (lessX x T A) s = isPair x (shS T A s) := by
  unfold isPair shS
  simp only
  rw [there_less T A x h.1 h.2.1, there_less T A x h.1 h.2.2, acc_less T A x h.1 h.2.1, acc_less T A x h.1 h.2.2]
  congr 3
  exact decide_eq_decide.2 (sh_lt T A).symm

theorem spots_less : ((spots (lessX x T A)).map (shP T A)).Sublist (spots x) := by
  rw [spots_eq, spots_eq, List.map_flatMap, lessX_length]
  refine sub_flatMap (fun t ht => ?_)
  have ht := List.mem_range.1 ht
  rw [less_getD T A x t ht]
  have e : ∀ n', ((List.range n').map fun (a : Nat) => ((t : Int), (a : Int))).map (shP T A) = ((List.range n').map (shN T A t)).map fun (a : Nat) => ((t : Int), (a : Int)) := fun n' => by
    rw [List.map_map, List.map_map]
    exact List.map_congr_left (fun b _ => by simp [shP, sh_nat])
  rw [e]
  refine List.Sublist.map _ ?_
  have := range_sh T A t (x.getD t []).length
  by_cases h : t = T
  · rw [if_pos h, lessL_len]
    simpa [h] using this
  · rw [if_neg h]
    simpa [h] using this
theorem law2 : nConf (lessX x T A) ≤ nConf x := by
  rw [nConf_eq, nConf_eq]
  refine Nat.le_trans (Nat.le_of_eq ?_) (pc_sub (conf x) (spots_less T A x))
  rw [pc_map]
  refine pc_congr (fun u hu s hs => ?_)
  have nnn : ∀ s ∈ spots (lessX x T A), 0 ≤ s.1 ∧ 0 ≤ s.2 := fun s hs => by
    obtain ⟨h1, h2, _⟩ := there_get (mem_spots hs)
    exact ⟨h1, h2⟩
  exact conflict_less T A x (nnn u hu).1 (nnn u hu).2 (nnn s hs).1 (nnn s hs).2
end
end Go.Am
