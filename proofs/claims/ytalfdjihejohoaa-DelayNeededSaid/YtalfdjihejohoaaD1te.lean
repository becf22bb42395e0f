/- Own text: D1te. -/
import Derived.Test.YtalfdjihejohoaaD1td
set_option maxRecDepth 100000
set_option linter.unusedVariables false
set_option linter.unusedSimpArgs false
namespace Go.Am
open Go Go.Proofs

/-! ### Stations -/
/-- A station that is within the accesses. -/
def inS (x : List (List Acc)) (s : Sta) : Prop := 0 ≤ s.1 ∧ s.1 < (x.length : Int) ∧ 0 ≤ s.2.1 ∧ s.2.1 ≤ s.2.2 ∧ s.2.2 < ((x.getD s.1.toNat []).length : Int) ∧ (s.2.1 = s.2.2 ∨ isPair x s = true)
theorem mem_stations_iff {x : List (List Acc)} {s : Sta} : s ∈ stations x ↔ inS x s := by
  unfold stations staT staA staB
  simp only [List.mem_flatMap, List.mem_range, List.mem_map, List.mem_filter, Bool.and_eq_true, Bool.or_eq_true, decide_eq_true_eq]
  constructor
  · rintro ⟨t, ht, a, ha, b, ⟨hb, hab, hor⟩, rfl⟩
    refine ⟨by simp, by simp; omega, by simp, by simp; omega, by simpa using hb, ?_⟩
    rcases hor with h | h
    · exact .inl (by simp; omega)
    · exact .inr h
  · obtain ⟨t, a, b⟩ := s
    rintro ⟨h1, h2, h3, h4, h5, h6⟩
    dsimp only at *
    refine ⟨t.toNat, by omega, a.toNat, by omega, b.toNat, ⟨by omega, by omega, ?_⟩, by simp; omega⟩
    rcases h6 with h | h
    · exact .inl (by omega)
    · right
      rw [show ((t.toNat : Nat) : Int) = t by omega, show ((a.toNat : Nat) : Int) = a by omega, show ((b.toNat : Nat) : Int) = b by omega]
      exact h
theorem nodup_flatMap {α β : Type} {l : List α} {g : α → List β} (h1 : l.Nodup) (h2 : ∀ a ∈ l, (g a).Nodup) (h3 : ∀ a ∈ l, ∀ b ∈ l, a ≠ b → ∀ y ∈ g a, ∀ z ∈ g b, y ≠ z) : (l.flatMap g).Nodup := by
  induction l with
  | nil => simp
  | cons a r ih =>
    rw [List.flatMap_cons, List.nodup_append]
    rw [List.nodup_cons] at h1
    refine ⟨h2 a (by simp), ih h1.2 (fun b hb => h2 b (by simp [hb])) (fun b hb c hc => h3 b (by simp [hb]) c (by simp [hc])), fun y hy z hz => ?_⟩
    obtain ⟨b, hb, hz⟩ := List.mem_flatMap.1 hz
    exact h3 a (by simp) b (by simp [hb]) (fun e => h1.1 (e ▸ hb)) y hy z hz
theorem nodup_range (n : Nat) : (List.range n).Nodup := List.nodup_range
theorem stations_nodup (x : List (List Acc)) : (stations x).Nodup := by
  unfold stations staT
  refine nodup_flatMap List.nodup_range (fun t _ => ?_) (fun t _ u _ hne y hy z hz => ?_)
  · unfold staA
    refine nodup_flatMap List.nodup_range (fun a _ => ?_) (fun a _ b _ hne y hy z hz => ?_)
    · unfold staB
      refine List.Pairwise.map _ ?_ (List.Pairwise.filter _ List.nodup_range)
      intro b c h e
      simp at e
      exact h (by omega)
    · unfold staB at hy hz
      obtain ⟨_, _, rfl⟩ := List.mem_map.1 hy
      obtain ⟨_, _, rfl⟩ := List.mem_map.1 hz
      simp; omega
  · unfold staA at hy hz
    obtain ⟨_, _, hy⟩ := List.mem_flatMap.1 hy
    obtain ⟨_, _, hz⟩ := List.mem_flatMap.1 hz
    unfold staB at hy hz
    obtain ⟨_, _, rfl⟩ := List.mem_map.1 hy
    obtain ⟨_, _, rfl⟩ := List.mem_map.1 hz
    simp; omega

/-! ### Circles -/
theorem mem_circFrom (x : List (List Acc)) (all : List Sta) : ∀ (k : Nat) (l l' : List Sta), l' ∈ circFrom x all k l ↔
    ∃ m, l' = l ++ m ∧ m.length ≤ k ∧ (∀ s ∈ m, s ∈ all) ∧ (∀ (i : Nat) (hi : i < m.length), nextOk x (l ++ m.take i) m[i] = true) ∧ 2 ≤ l'.length ∧ isCircle x l' = true := by
  have here : ∀ l l', l' ∈ circHere x l ↔ l' = l ∧ 2 ≤ l'.length ∧ isCircle x l' = true := by
    intro l l'
    unfold circHere
    split
    · rename_i h
      simp only [Bool.and_eq_true, decide_eq_true_eq] at h
      simp only [List.mem_singleton]
      exact ⟨fun e => by subst e; exact ⟨rfl, h⟩, fun e => e.1⟩
    · rename_i h
      simp only [Bool.and_eq_true, decide_eq_true_eq] at h
      simp only [List.not_mem_nil, false_iff]
      rintro ⟨rfl, h2⟩; exact h h2
  intro k
  induction k with
  | zero =>
    intro l l'
    unfold circFrom
    rw [here]
    constructor
    · rintro ⟨rfl, h⟩; exact ⟨[], by simp, by simp, by simp, by simp, h⟩
    · rintro ⟨m, rfl, hm, _, _, h⟩
      obtain rfl : m = [] := List.length_eq_zero_iff.1 (by omega)
      simpa using h
  | succ k ih =>
    intro l l'
    unfold circFrom
    rw [List.mem_append, here, List.mem_flatMap]
    constructor
    · rintro (⟨rfl, h⟩ | ⟨st, hst, h⟩)
      · exact ⟨[], by simp, by simp, by simp, by simp, h⟩
      · split at h
        · rename_i hn
          obtain ⟨m, rfl, h1, h2, h3, h4⟩ := (ih _ _).1 h
          refine ⟨st :: m, by simp, by simp; omega, fun s hs => ?_, fun i hi => ?_, h4⟩
          · rcases List.mem_cons.1 hs with rfl | hs
            · exact hst
            · exact h2 s hs
          · cases i with
            | zero => simpa using hn
            | succ i => have := h3 i (by simpa using hi); simpa using this
        · simp at h
    · rintro ⟨m, rfl, h1, h2, h3, h4⟩
      cases m with
      | nil => left; simpa using h4
      | cons st m =>
        right
        refine ⟨st, h2 st (by simp), ?_⟩
        have := h3 0 (by simp)
        simp only [List.take_zero, List.append_nil, List.getElem_cons_zero] at this
        rw [if_pos this, ih]
        refine ⟨m, by simp, by simp at h1; omega, fun s hs => h2 s (by simp [hs]), fun i hi => ?_, h4⟩
        have := h3 (i + 1) (by simp; omega)
        simpa using this

theorem circle_next {x : List (List Acc)} {l : List Sta} (h : isCircle x l = true) (i : Nat) (hi : i < l.length) : nextOk x (l.take i) l[i] = true := by
  unfold nextOk
  cases i with
  | zero => simp
  | succ i =>
    unfold isCircle at h
    simp only [Bool.and_eq_true, List.all_eq_true, List.mem_range] at h
    have h1 := h.1 i (by omega)
    unfold circAt at h1
    simp only [Bool.and_eq_true] at h1
    have h2 := h1.1
    have e1 : (i + 1) % l.length = i + 1 := Nat.mod_eq_of_lt hi
    rw [e1] at h2
    have e2 : lastOf (l.take (i + 1)) = l.getD i (0, 0, 0) := by
      unfold lastOf
      rw [List.getD_eq_getElem?_getD, List.getD_eq_getElem?_getD]
      congr 1
      rw [List.length_take, show min (i + 1) l.length - 1 = i by omega, List.getElem?_take_of_lt (by omega)]
    have e3 : l[i + 1] = l.getD (i + 1) (0, 0, 0) := by rw [List.getD_eq_getElem?_getD, List.getElem?_eq_getElem hi]; rfl
    rw [e2, e3, h2]
    simp

theorem mem_circles_iff {x : List (List Acc)} {l : List Sta} : l ∈ circles x ↔ 2 ≤ l.length ∧ l.length ≤ 3 ∧ (∀ s ∈ l, s ∈ stations x) ∧ isCircle x l = true := by
  unfold circles
  rw [mem_circFrom]
  constructor
  · rintro ⟨m, rfl, h1, h2, _, h3, h4⟩
    simp only [List.nil_append] at *
    exact ⟨h3, h1, h2, h4⟩
  · rintro ⟨h1, h2, h3, h4⟩
    refine ⟨l, by simp, h2, h3, fun i hi => ?_, h1, h4⟩
    simpa using circle_next h4 i hi

theorem circFrom_nodup (x : List (List Acc)) (all : List Sta) (hall : all.Nodup) : ∀ (k : Nat) (l : List Sta), (circFrom x all k l).Nodup := by
  have here : ∀ l, (circHere x l).Nodup := by intro l; unfold circHere; split <;> simp
  intro k
  induction k with
  | zero => intro l; unfold circFrom; exact here l
  | succ k ih =>
    intro l
    unfold circFrom
    rw [List.nodup_append]
    have hpre : ∀ st y, y ∈ (if nextOk x l st then circFrom x all k (l ++ [st]) else []) → ∃ m, y = l ++ [st] ++ m := by
      intro st y hy
      split at hy
      · obtain ⟨m, rfl, _⟩ := (mem_circFrom x all k _ _).1 hy
        exact ⟨m, rfl⟩
      · simp at hy
    refine ⟨here l, nodup_flatMap hall (fun st _ => by split; exact ih _; simp) (fun a _ b _ hne y hy z hz => ?_), fun y hy z hz => ?_⟩
    · obtain ⟨m, rfl⟩ := hpre a y hy
      obtain ⟨m', rfl⟩ := hpre b z hz
      intro e
      rw [List.append_assoc, List.append_assoc] at e
      have := List.append_cancel_left e
      simp at this
      exact hne this.1
    · obtain ⟨st, _, hz⟩ := List.mem_flatMap.1 hz
      obtain ⟨m, rfl⟩ := hpre st z hz
      unfold circHere at hy
      split at hy
      · simp at hy; subst hy
        intro e
        have := congrArg List.length e
        simp at this
      · simp at hy
theorem circles_nodup (x : List (List Acc)) : (circles x).Nodup := circFrom_nodup x _ (stations_nodup x) 3 []

theorem length_le_of_nodup {α : Type} [DecidableEq α] : ∀ {l m : List α}, l.Nodup → (∀ a ∈ l, a ∈ m) → l.length ≤ m.length
  | [], _, _, _ => by simp
  | a :: l, m, h, hs => by
    rw [List.nodup_cons] at h
    have ha := hs a (by simp)
    have := length_le_of_nodup (l := l) (m := m.erase a) h.2 (fun b hb => by
      have : b ≠ a := fun e => h.1 (e ▸ hb)
      exact (List.mem_erase_of_ne this).2 (hs b (by simp [hb])))
    rw [List.length_erase_of_mem ha] at this
    have := List.length_pos_of_mem ha
    simp only [List.length_cons]
    omega
theorem length_le_of_inj {α β : Type} [DecidableEq β] {l : List α} {m : List β} (f : α → β) (h : l.Nodup) (hf : ∀ a ∈ l, ∀ b ∈ l, f a = f b → a = b) (hs : ∀ a ∈ l, f a ∈ m) : l.length ≤ m.length := by
  have h1 : (l.map f).Nodup := by
    unfold List.Nodup at *
    rw [List.pairwise_map]
    exact h.imp_of_mem (fun {a b} ha hb hne e => hne (hf a ha b hb e))
  have := length_le_of_nodup h1 (m := m) (fun b hb => by obtain ⟨a, ha, rfl⟩ := List.mem_map.1 hb; exact hs a ha)
  simpa using this

/-! ### Turned round -/
section
variable (x : List (List Acc))
theorem turned_len : (turned x).length = x.length := by simp [turned]
theorem turned_getD (t : Nat) : (turned x).getD t [] = (x.getD t []).reverse := by
  unfold turned
  rw [List.getD_eq_getElem?_getD, List.getElem?_map, List.getD_eq_getElem?_getD]
  cases x[t]? <;> simp
theorem turned_rowlen (t : Nat) : ((turned x).getD t []).length = (x.getD t []).length := by rw [turned_getD]; simp
theorem turned_turned : turned (turned x) = x := by
  unfold turned
  rw [List.map_map]
  have : (List.reverse ∘ List.reverse : List Acc → List Acc) = id := funext List.reverse_reverse
  rw [this, List.map_id]
theorem mir_turned (s : Sta) : mir (turned x) s = mir x s := by unfold mir; rw [turned_rowlen]
def rl (t : Int) : Int := ((x.getD t.toNat []).length : Int)
theorem acc_getD (t a : Int) : acc x t a = ((x.getD t.toNat [])[a.toNat]?).getD (0, false) := by
  unfold acc
  rw [List.getD_eq_getElem?_getD]
  cases x[t.toNat]? <;> simp
theorem acc_turned (t a : Int) (h0 : 0 ≤ a) (h1 : a < rl x t) : acc (turned x) t (rl x t - 1 - a) = acc x t a := by
  unfold rl at *
  rw [acc_getD, acc_getD, turned_getD, List.getElem?_reverse (by omega)]
  congr 2; omega
theorem there_iff (t a : Int) : there x t a = true ↔ 0 ≤ t ∧ t < (x.length : Int) ∧ 0 ≤ a ∧ a < rl x t := by
  unfold there rl
  rw [List.getD_eq_getElem?_getD]
  simp only [Bool.and_eq_true, decide_eq_true_eq]
  constructor
  · rintro ⟨h0, h⟩
    split at h
    · rename_i L hL
      simp only [Bool.and_eq_true, decide_eq_true_eq] at h
      have := (List.getElem?_eq_some_iff.1 hL).1
      rw [hL]
      exact ⟨h0, by omega, h.1, h.2⟩
    · cases h
  · rintro ⟨h0, h1, h2, h3⟩
    refine ⟨h0, ?_⟩
    rw [List.getElem?_eq_getElem (by omega)] at h3 ⊢
    simpa using ⟨h2, h3⟩
theorem conflict_turned (t a u b : Int) (h0 : 0 ≤ a) (h1 : a < rl x t) (g0 : 0 ≤ b) (g1 : b < rl x u) : conflict (turned x) t (rl x t - 1 - a) u (rl x u - 1 - b) = conflict x t a u b := by
  unfold conflict
  rw [acc_turned x t a h0 h1, acc_turned x u b g0 g1]
theorem conflict_comm (t a u b : Int) : conflict x t a u b = conflict x u b t a := by
  unfold conflict
  rw [Bool.or_comm]
  congr 2
  · rw [decide_eq_decide]; exact ⟨fun h e => h e.symm, fun h e => h e.symm⟩
  · rw [decide_eq_decide]; exact ⟨fun h => h.symm, fun h => h.symm⟩
theorem isPair_iff (s : Sta) : isPair x s = true ↔ s.2.1 < s.2.2 ∧ there x s.1 s.2.1 = true ∧ there x s.1 s.2.2 = true ∧ (acc x s.1 s.2.1).1 ≠ (acc x s.1 s.2.2).1 := by
  unfold isPair
  simp only [Bool.and_eq_true, decide_eq_true_eq, and_assoc]
theorem mir_mk (t a b : Int) : mir x (t, a, b) = (t, rl x t - 1 - b, rl x t - 1 - a) := rfl
theorem isPair_mir (s : Sta) (h : isPair x s = true) : isPair (turned x) (mir x s) = true := by
  obtain ⟨t, a, b⟩ := s
  rw [isPair_iff] at *
  rw [mir_mk]
  dsimp only at *
  obtain ⟨h1, h2, h3, h4⟩ := h
  have e2 := (there_iff x t a).1 h2
  have e3 := (there_iff x t b).1 h3
  refine ⟨by omega, (there_iff _ _ _).2 ?_, (there_iff _ _ _).2 ?_, ?_⟩
  · rw [turned_len]; unfold rl at *; rw [turned_rowlen]; omega
  · rw [turned_len]; unfold rl at *; rw [turned_rowlen]; omega
  · rw [acc_turned x t a e2.2.2.1 e2.2.2.2, acc_turned x t b e3.2.2.1 e3.2.2.2]; exact fun e => h4 e.symm
theorem inS_mir {s : Sta} (h : inS x s) : inS (turned x) (mir x s) := by
  obtain ⟨t, a, b⟩ := s
  obtain ⟨h1, h2, h3, h4, h5, h6⟩ := h
  rw [mir_mk]
  unfold inS rl
  dsimp only at *
  rw [turned_len, turned_rowlen]
  refine ⟨h1, h2, by omega, by omega, by omega, ?_⟩
  rcases h6 with h | h
  · exact .inl (by omega)
  · exact .inr (isPair_mir x (t, a, b) h)
theorem mir_mir (s : Sta) : mir x (mir x s) = s := by
  obtain ⟨t, a, b⟩ := s
  rw [mir_mk, mir_mk]
  simp; omega
theorem mir_inj {s u : Sta} (h : mir x s = mir x u) : s = u := by
  have := congrArg (mir x) h
  rwa [mir_mir, mir_mir] at this

theorem circ2 (p q : Sta) : isCircle x [p, q] = (conflict x p.1 p.2.2 q.1 q.2.1 && (conflict x q.1 q.2.2 p.1 p.2.1 && !decide (p.1 = q.1)) && (isPair x p || isPair x q)) := by
  simp [isCircle, circAt, List.range_succ, List.all_append]
theorem circ3 (p q r : Sta) : isCircle x [p, q, r] = (conflict x p.1 p.2.2 q.1 q.2.1 && ((conflict x q.1 q.2.2 r.1 r.2.1 && !decide (p.1 = q.1)) && (conflict x r.1 r.2.2 p.1 p.2.1 && !(decide (p.1 = r.1) || decide (q.1 = r.1)))) && (isPair x p || (isPair x q || isPair x r))) := by
  simp [isCircle, circAt, List.range_succ, List.all_append, Bool.and_assoc]

def mirL (l : List Sta) : List Sta := (l.map (mir x)).reverse
theorem conflict_mir {p q : Sta} (hp : inS x p) (hq : inS x q) : conflict (turned x) (mir x q).1 (mir x q).2.2 (mir x p).1 (mir x p).2.1 = conflict x p.1 p.2.2 q.1 q.2.1 := by
  obtain ⟨t, a, b⟩ := p
  obtain ⟨u, c, d⟩ := q
  obtain ⟨h1, h2, h3, h4, h5, h6⟩ := hp
  obtain ⟨g1, g2, g3, g4, g5, g6⟩ := hq
  rw [mir_mk, mir_mk]
  dsimp only at *
  rw [conflict_turned x u c t b g3 (by unfold rl; omega) (by omega) h5, conflict_comm]
theorem isPair_mir_eq (s : Sta) : isPair (turned x) (mir x s) = isPair x s := by
  rw [Bool.eq_iff_iff]
  constructor
  · intro h
    have := isPair_mir (turned x) _ h
    rwa [turned_turned, mir_turned, mir_mir] at this
  · exact isPair_mir x s
theorem mir_fst (s : Sta) : (mir x s).1 = s.1 := rfl

theorem isCircle_mirL {l : List Sta} (h2 : 2 ≤ l.length) (h3 : l.length ≤ 3) (hl : ∀ s ∈ l, inS x s) (hc : isCircle x l = true) : isCircle (turned x) (mirL x l) = true := by
  match l, h2, h3 with
  | [p, q], _, _ =>
    have hp := hl p (by simp)
    have hq := hl q (by simp)
    show isCircle (turned x) [mir x q, mir x p] = true
    rw [circ2] at hc ⊢
    rw [conflict_mir x hp hq, conflict_mir x hq hp, isPair_mir_eq, isPair_mir_eq, mir_fst, mir_fst]
    simp only [Bool.and_eq_true, Bool.or_eq_true, Bool.not_eq_true', decide_eq_false_iff_not] at hc ⊢
    obtain ⟨⟨c1, c2, c3⟩, c4⟩ := hc
    exact ⟨⟨c1, c2, fun e => c3 e.symm⟩, c4.symm⟩
  | [p, q, r], _, _ =>
    have hp := hl p (by simp)
    have hq := hl q (by simp)
    have hr := hl r (by simp)
    show isCircle (turned x) [mir x r, mir x q, mir x p] = true
    rw [circ3] at hc ⊢
    rw [conflict_mir x hq hr, conflict_mir x hp hq, conflict_mir x hr hp, isPair_mir_eq, isPair_mir_eq, isPair_mir_eq]
    simp only [mir_fst]
    simp only [Bool.and_eq_true, Bool.or_eq_true, Bool.not_eq_true', decide_eq_false_iff_not, Bool.or_eq_false_iff] at hc ⊢
    obtain ⟨⟨c1, ⟨c2, c3⟩, c4, c5, c6⟩, c7⟩ := hc
    have d6 : ¬ q.1 = r.1 := by simpa using c6
    have d5 : ¬ p.1 = r.1 := by simpa using c5
    have d3 : ¬ p.1 = q.1 := by simpa using c3
    refine ⟨⟨c2, ⟨c1, by first | exact Ne.symm d6 | exact decide_eq_false (Ne.symm d6)⟩, c4, by first | exact Ne.symm d5 | exact decide_eq_false (Ne.symm d5), by first | exact Ne.symm d3 | exact decide_eq_false (Ne.symm d3)⟩, ?_⟩
    rcases c7 with c | c | c
    · exact .inr (.inr c)
    · exact .inr (.inl c)
    · exact .inl c

theorem circles_mirL {l : List Sta} (h : l ∈ circles x) : mirL x l ∈ circles (turned x) := by
  obtain ⟨h1, h2, h3, h4⟩ := mem_circles_iff.1 h
  have hin : ∀ s ∈ l, inS x s := fun s hs => mem_stations_iff.1 (h3 s hs)
  refine mem_circles_iff.2 ⟨by simp [mirL]; omega, by simp [mirL]; omega, fun s hs => ?_, isCircle_mirL x h1 h2 hin h4⟩
  unfold mirL at hs
  rw [List.mem_reverse, List.mem_map] at hs
  obtain ⟨u, hu, rfl⟩ := hs
  exact mem_stations_iff.2 (inS_mir x (hin u hu))
theorem mirL_inj {l m : List Sta} (h : mirL x l = mirL x m) : l = m := by
  unfold mirL at h
  have h2 := List.reverse_inj.1 h
  have h3 := congrArg (List.map (mir x)) h2
  rw [List.map_map, List.map_map] at h3
  have : (mir x ∘ mir x) = id := funext (mir_mir x)
  rwa [this, List.map_id, List.map_id] at h3

theorem nCirc_le : nCirc x ≤ nCirc (turned x) :=
  length_le_of_inj (mirL x) (circles_nodup x) (fun a _ b _ h => mirL_inj x h) (fun l hl => circles_mirL x hl)
theorem mem_needed_iff {s : Sta} : s ∈ neededL x ↔ s ∈ stations x ∧ isPair x s = true ∧ ∃ l ∈ circles x, s ∈ l := by
  unfold neededL pairsL inCircle
  simp only [List.mem_filter, List.contains_eq_mem, decide_eq_true_eq, List.mem_flatten, and_assoc]
theorem needed_mir {s : Sta} (h : s ∈ neededL x) : mir x s ∈ neededL (turned x) := by
  obtain ⟨h1, h2, l, hl, hs⟩ := (mem_needed_iff x).1 h
  refine (mem_needed_iff _).2 ⟨mem_stations_iff.2 (inS_mir x (mem_stations_iff.1 h1)), isPair_mir x s h2, mirL x l, circles_mirL x hl, ?_⟩
  unfold mirL
  rw [List.mem_reverse]
  exact List.mem_map_of_mem hs
theorem needed_nodup : (neededL x).Nodup := by
  unfold neededL pairsL
  exact (List.Pairwise.filter _ (List.Pairwise.filter _ (stations_nodup x)))
theorem needed_le : (neededL x).length ≤ (neededL (turned x)).length :=
  length_le_of_inj (mir x) (needed_nodup x) (fun a _ b _ h => mir_inj x h) (fun s hs => needed_mir x hs)
end

theorem valid_turned (x : List (List Acc)) (h : valid x = true) : valid (turned x) = true := by
  unfold valid at *
  rw [turned_len]
  simp only [Bool.and_eq_true, Bool.not_eq_true'] at *
  refine ⟨h.1, ?_⟩
  rw [List.any_eq_false] at *
  intro l hl
  unfold turned at hl
  obtain ⟨l', hl', rfl⟩ := List.mem_map.1 hl
  have := h.2 l' hl'
  unfold badL at *
  simp only [List.length_reverse, List.any_reverse] at *
  exact this
theorem big_turned (x : List (List Acc)) (h : Big x) : Big (turned x) := by
  refine ⟨by rw [turned_len]; exact h.1, fun l hl => ?_⟩
  unfold turned at hl
  obtain ⟨l', hl', rfl⟩ := List.mem_map.1 hl
  rw [List.length_reverse]
  exact h.2 l' hl'

theorem DelayTurns_all (x : List (List Acc)) (hx : Big x) : ACall P 5 [.d (dX x)] [] (AB true) [] := by
  refine DelayTurns_ok x hx (big_turned x hx) (valid_turned x) (turned_turned x) (fun _ => ?_) (fun _ => ?_) (fun s hs => ?_) (fun s hs => ?_)
  · refine Nat.le_antisymm ?_ (needed_le x)
    have := needed_le (turned x)
    rwa [turned_turned] at this
  · refine Nat.le_antisymm ?_ (nCirc_le x)
    have := nCirc_le (turned x)
    rwa [turned_turned] at this
  · rw [List.contains_eq_mem, decide_eq_true_eq]
    exact needed_mir x hs
  · exact mem_stations ((mem_needed_iff x).1 hs).1
end Go.Am
