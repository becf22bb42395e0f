/- Own text: D1vc, D1fa, D1fb, D1fx. -/
import Derived.Test.YtalfdjihejohoaaD1vb
set_option maxRecDepth 100000
set_option linter.unusedVariables false
set_option linter.unusedSimpArgs false
namespace Go.Am
open Go Go.Proofs

theorem pairwise_flatMap' {α β : Type} {R : β → β → Prop} {S : α → α → Prop} {l : List α} {g : α → List β} (h1 : l.Pairwise S) (h2 : ∀ a ∈ l, (g a).Pairwise R) (h3 : ∀ a b, S a b → ∀ y ∈ g a, ∀ z ∈ g b, R y z) : (l.flatMap g).Pairwise R := by
  induction l with
  | nil => simp
  | cons a r ih =>
    rw [List.flatMap_cons, List.pairwise_append]
    rw [List.pairwise_cons] at h1
    refine ⟨h2 a (by simp), ih h1.2 (fun b hb => h2 b (by simp [hb])), fun y hy z hz => ?_⟩
    obtain ⟨b, hb, hz⟩ := List.mem_flatMap.1 hz
    exact h3 a b (h1.1 b hb) y hy z hz
theorem stations_sorted (x : List (List Acc)) : (stations x).Pairwise (fun r s => earl r s = true) := by
  unfold stations staT
  refine pairwise_flatMap' List.pairwise_lt_range (fun t _ => ?_) (fun t u hlt y hy z hz => ?_)
  · unfold staA
    refine pairwise_flatMap' List.pairwise_lt_range (fun a _ => ?_) (fun a b hlt y hy z hz => ?_)
    · unfold staB
      refine List.Pairwise.map _ ?_ (List.Pairwise.filter _ List.pairwise_lt_range)
      intro b c h
      unfold earl
      simp; omega
    · unfold staB at hy hz
      obtain ⟨_, _, rfl⟩ := List.mem_map.1 hy
      obtain ⟨_, _, rfl⟩ := List.mem_map.1 hz
      unfold earl
      have : (a : Int) ≠ b := by omega
      simp [this]; omega
  · unfold staA at hy hz
    obtain ⟨_, _, hy⟩ := List.mem_flatMap.1 hy
    obtain ⟨_, _, hz⟩ := List.mem_flatMap.1 hz
    unfold staB at hy hz
    obtain ⟨_, _, rfl⟩ := List.mem_map.1 hy
    obtain ⟨_, _, rfl⟩ := List.mem_map.1 hz
    unfold earl
    have : (t : Int) ≠ u := by omega
    simp [this]; omega
theorem needed_sorted (x : List (List Acc)) : (neededL x).Pairwise (fun r s => earl r s = true) := by
  unfold neededL pairsL
  exact List.Pairwise.filter _ (List.Pairwise.filter _ (stations_sorted x))
theorem needed_next (x : List (List Acc)) (i : Nat) (r s : Sta) (h1 : (neededL x)[i]? = some r) (h2 : (neededL x)[i + 1]? = some s) : earl r s = true := by
  obtain ⟨g1, rfl⟩ := List.getElem?_eq_some_iff.1 h1
  obtain ⟨g2, rfl⟩ := List.getElem?_eq_some_iff.1 h2
  exact List.pairwise_iff_getElem.1 (needed_sorted x) i (i + 1) g1 g2 (by omega)

theorem circles_isCircF {x : List (List Acc)} {l : List Sta} : l ∈ circles x ↔ isCircF x l = true := by
  rw [mem_circles_iff]
  unfold isCircF
  simp only [Bool.and_eq_true, decide_eq_true_eq, List.all_eq_true, List.contains_eq_mem, and_assoc]
theorem circle_pair {x : List (List Acc)} {l : List Sta} (h : isCircle x l = true) : ∃ s ∈ l, isPair x s = true := by
  unfold isCircle at h
  simp only [Bool.and_eq_true, List.any_eq_true] at h
  obtain ⟨s, h1, h2⟩ := h.2
  exact ⟨s, h1, h2⟩
theorem circle_allIn {x : List (List Acc)} {l : List Sta} (h : l ∈ circles x) : allIn (neededL x) l = true := by
  unfold allIn
  rw [List.all_eq_true]
  intro s hs
  obtain ⟨_, _, h3, _⟩ := mem_circles_iff.1 h
  obtain ⟨_, _, _, _, _, h6⟩ := mem_stations_iff.1 (h3 s hs)
  rw [Bool.or_eq_true, decide_eq_true_eq, List.contains_eq_mem, decide_eq_true_eq]
  rcases h6 with h6 | h6
  · exact .inl h6
  · exact .inr ((mem_needed_iff x).2 ⟨h3 s hs, h6, l, h, hs⟩)
theorem needed_find {x : List (List Acc)} {s : Sta} (h : s ∈ neededL x) : ∃ l, (circles x).find? (·.contains s) = some l ∧ l ∈ circles x ∧ l.contains s = true := by
  obtain ⟨_, _, l, hl, hs⟩ := (mem_needed_iff x).1 h
  cases hf : (circles x).find? (·.contains s) with
  | none =>
    have := List.find?_eq_none.1 hf l hl
    simp [hs] at this
  | some l' => exact ⟨l', rfl, List.mem_of_find?_eq_some hf, by have := List.find?_some (p := fun l : List Sta => l.contains s) hf; exact this⟩
theorem needed_pairs {x : List (List Acc)} {s : Sta} (h : s ∈ neededL x) : (pairsL x).contains s = true ∧ isPair x s = true := by
  obtain ⟨h1, h2, _⟩ := (mem_needed_iff x).1 h
  refine ⟨?_, h2⟩
  rw [List.contains_eq_mem, decide_eq_true_eq]
  unfold pairsL
  exact List.mem_filter.2 ⟨h1, h2⟩
theorem needed_zero (x : List (List Acc)) : ((circles x).length = 0) ↔ ((neededL x).length = 0) := by
  rw [List.length_eq_zero_iff, List.length_eq_zero_iff]
  constructor
  · intro h
    rw [List.eq_nil_iff_forall_not_mem]
    intro s hs
    obtain ⟨_, _, l, hl, _⟩ := (mem_needed_iff x).1 hs
    rw [h] at hl; simp at hl
  · intro h
    rw [List.eq_nil_iff_forall_not_mem]
    intro l hl
    obtain ⟨h1, h2, h3, h4⟩ := mem_circles_iff.1 hl
    obtain ⟨s, hs, hp⟩ := circle_pair h4
    have : s ∈ neededL x := (mem_needed_iff x).2 ⟨h3 s hs, hp, l, hl, hs⟩
    rw [h] at this; simp at this
end Go.Am

set_option maxRecDepth 100000
set_option linter.unusedVariables false
set_option linter.unusedSimpArgs false
namespace Go.Am
open Go Go.Proofs

/-! Fences. -/
abbrev Fen := Int × Int
def dFen (f : Fen) : D := .agg [I f.1, I f.2]
def cmpI (a b : Int) : Int := if a < b then -1 else if b < a then 1 else 0
def cmpF (f g : Fen) : Int := if cmpI f.1 g.1 ≠ 0 then cmpI f.1 g.1 else cmpI f.2 g.2

theorem nan_ok (a : Int) : ACall P 134 [AI a] [] (AB false) [] := by
  refine ACall.enter hT (fn := Try.f134) Try.func134 rfl (by decide) (by simp [Try.f134]) rfl rfl rfl rfl (Nat.le_refl _) ?_
  repeat refine AWp.seq ?_
  refine AWp.reg1 {} hT (fun A hA => by cbv) (Nat.zero_le _) ?_
  try dsimp only [AExit.then, AExit.block]
  repeat refine AWp.seq ?_
  refine AWp.reg1 {} hT (fun A hA => by
      have f0 := ar_eq hA (rfl : a = a)
      repeat (cbv; simp only [f0])
      cbv) (Nat.zero_le _) ?_
  try dsimp only [AExit.then, AExit.block]
  repeat refine AWp.seq ?_
  refine AWp.ret ⟨?_, rfl, rfl, Nat.zero_le _, _, rfl⟩
  rfl
theorem cmp_ok (a b : Int) : ACall P 109 [AI a, AI b] [] (AI (cmpI a b)) [] := by
  have ca := nan_ok a
  have cb := nan_ok b
  unfold cmpI
  by_cases h : a < b
  · rw [if_pos h]
    refine ACall.enter hT (fn := Try.f109) Try.func109 rfl (by decide) (by simp [Try.f109]) rfl rfl rfl rfl (Nat.le_refl _) ?_
    repeat refine AWp.seq ?_
    refine AWp.reg1 {} hT (fun A hA => by cbv) (Nat.zero_le _) ?_
    try dsimp only [AExit.then, AExit.block]
    repeat refine AWp.seq ?_
    refine AWp.region ?_
    refine AOps.stepCall hT (an := {}) (fun A hA => by cbv) (Nat.zero_le _) rfl (.inr rfl) rfl rfl rfl (Nat.le_of_ble_eq_true rfl) rfl rfl (ca) ?_
    refine AOps.done hT (an := {}) (fun A hA => by cbv) (Nat.zero_le _) ?_
    try dsimp only [AExit.then, AExit.block]
    repeat refine AWp.seq ?_
    refine AWp.region ?_
    refine AOps.stepCall hT (an := {}) (fun A hA => by cbv) (Nat.zero_le _) rfl (.inr rfl) rfl rfl rfl (Nat.le_of_ble_eq_true rfl) rfl rfl (cb) ?_
    refine AOps.done hT (an := {}) (fun A hA => by cbv) (Nat.zero_le _) ?_
    try dsimp only [AExit.then, AExit.block]
    repeat refine AWp.seq ?_
    refine AWp.reg1 {} hT (fun A hA => by cbv) (Nat.zero_le _) ?_
    try dsimp only [AExit.then, AExit.block]
    repeat refine AWp.seq ?_
    refine AWp.cond (b := false) rfl (AWp.skip ?_)
    try dsimp only [AExit.then, AExit.block]
    repeat refine AWp.seq ?_
    refine AWp.reg1 {} hT (fun A hA => by cbv) (Nat.zero_le _) ?_
    try dsimp only [AExit.then, AExit.block]
    repeat refine AWp.seq ?_
    refine AWp.cond (b := false) rfl (AWp.skip ?_)
    try dsimp only [AExit.then, AExit.block]
    repeat refine AWp.seq ?_
    refine AWp.reg1 {} hT (fun A hA => by
        have f0 := ar_lt hA h
        repeat (cbv; simp only [f0])
        cbv) (Nat.zero_le _) ?_
    try dsimp only [AExit.then, AExit.block]
    repeat refine AWp.seq ?_
    refine AWp.cond (b := true) rfl ?_
    rw [if_pos rfl]
    repeat refine AWp.seq ?_
    refine AWp.reg1 {} hT (fun A hA => by cbv) (Nat.zero_le _) ?_
    try dsimp only [AExit.then, AExit.block]
    repeat refine AWp.seq ?_
    refine AWp.ret ⟨?_, rfl, rfl, Nat.zero_le _, _, rfl⟩
    rfl
  · rw [if_neg h]
    by_cases h2 : b < a
    · rw [if_pos h2]
      refine ACall.enter hT (fn := Try.f109) Try.func109 rfl (by decide) (by simp [Try.f109]) rfl rfl rfl rfl (Nat.le_refl _) ?_
      repeat refine AWp.seq ?_
      refine AWp.reg1 {} hT (fun A hA => by cbv) (Nat.zero_le _) ?_
      try dsimp only [AExit.then, AExit.block]
      repeat refine AWp.seq ?_
      refine AWp.region ?_
      refine AOps.stepCall hT (an := {}) (fun A hA => by cbv) (Nat.zero_le _) rfl (.inr rfl) rfl rfl rfl (Nat.le_of_ble_eq_true rfl) rfl rfl (ca) ?_
      refine AOps.done hT (an := {}) (fun A hA => by cbv) (Nat.zero_le _) ?_
      try dsimp only [AExit.then, AExit.block]
      repeat refine AWp.seq ?_
      refine AWp.region ?_
      refine AOps.stepCall hT (an := {}) (fun A hA => by cbv) (Nat.zero_le _) rfl (.inr rfl) rfl rfl rfl (Nat.le_of_ble_eq_true rfl) rfl rfl (cb) ?_
      refine AOps.done hT (an := {}) (fun A hA => by cbv) (Nat.zero_le _) ?_
      try dsimp only [AExit.then, AExit.block]
      repeat refine AWp.seq ?_
      refine AWp.reg1 {} hT (fun A hA => by cbv) (Nat.zero_le _) ?_
      try dsimp only [AExit.then, AExit.block]
      repeat refine AWp.seq ?_
      refine AWp.cond (b := false) rfl (AWp.skip ?_)
      try dsimp only [AExit.then, AExit.block]
      repeat refine AWp.seq ?_
      refine AWp.reg1 {} hT (fun A hA => by cbv) (Nat.zero_le _) ?_
      try dsimp only [AExit.then, AExit.block]
      repeat refine AWp.seq ?_
      refine AWp.cond (b := false) rfl (AWp.skip ?_)
      try dsimp only [AExit.then, AExit.block]
      repeat refine AWp.seq ?_
      refine AWp.reg1 {} hT (fun A hA => by
          have f0 := ar_nlt hA h
          repeat (cbv; simp only [f0])
          cbv) (Nat.zero_le _) ?_
      try dsimp only [AExit.then, AExit.block]
      repeat refine AWp.seq ?_
      refine AWp.cond (b := false) rfl (AWp.skip ?_)
      try dsimp only [AExit.then, AExit.block]
      repeat refine AWp.seq ?_
      refine AWp.reg1 {} hT (fun A hA => by
          have f0 := ar_lt hA h2
          repeat (cbv; simp only [f0])
          cbv) (Nat.zero_le _) ?_
      try dsimp only [AExit.then, AExit.block]
      repeat refine AWp.seq ?_
      refine AWp.cond (b := true) rfl ?_
      rw [if_pos rfl]
      repeat refine AWp.seq ?_
      refine AWp.reg1 {} hT (fun A hA => by cbv) (Nat.zero_le _) ?_
      try dsimp only [AExit.then, AExit.block]
      repeat refine AWp.seq ?_
      refine AWp.ret ⟨?_, rfl, rfl, Nat.zero_le _, _, rfl⟩
      rfl
    · rw [if_neg h2]
      refine ACall.enter hT (fn := Try.f109) Try.func109 rfl (by decide) (by simp [Try.f109]) rfl rfl rfl rfl (Nat.le_refl _) ?_
      repeat refine AWp.seq ?_
      refine AWp.reg1 {} hT (fun A hA => by cbv) (Nat.zero_le _) ?_
      try dsimp only [AExit.then, AExit.block]
      repeat refine AWp.seq ?_
      refine AWp.region ?_
      refine AOps.stepCall hT (an := {}) (fun A hA => by cbv) (Nat.zero_le _) rfl (.inr rfl) rfl rfl rfl (Nat.le_of_ble_eq_true rfl) rfl rfl (ca) ?_
      refine AOps.done hT (an := {}) (fun A hA => by cbv) (Nat.zero_le _) ?_
      try dsimp only [AExit.then, AExit.block]
      repeat refine AWp.seq ?_
      refine AWp.region ?_
      refine AOps.stepCall hT (an := {}) (fun A hA => by cbv) (Nat.zero_le _) rfl (.inr rfl) rfl rfl rfl (Nat.le_of_ble_eq_true rfl) rfl rfl (cb) ?_
      refine AOps.done hT (an := {}) (fun A hA => by cbv) (Nat.zero_le _) ?_
      try dsimp only [AExit.then, AExit.block]
      repeat refine AWp.seq ?_
      refine AWp.reg1 {} hT (fun A hA => by cbv) (Nat.zero_le _) ?_
      try dsimp only [AExit.then, AExit.block]
      repeat refine AWp.seq ?_
      refine AWp.cond (b := false) rfl (AWp.skip ?_)
      try dsimp only [AExit.then, AExit.block]
      repeat refine AWp.seq ?_
      refine AWp.reg1 {} hT (fun A hA => by cbv) (Nat.zero_le _) ?_
      try dsimp only [AExit.then, AExit.block]
      repeat refine AWp.seq ?_
      refine AWp.cond (b := false) rfl (AWp.skip ?_)
      try dsimp only [AExit.then, AExit.block]
      repeat refine AWp.seq ?_
      refine AWp.reg1 {} hT (fun A hA => by
          have f0 := ar_nlt hA h
          repeat (cbv; simp only [f0])
          cbv) (Nat.zero_le _) ?_
      try dsimp only [AExit.then, AExit.block]
      repeat refine AWp.seq ?_
      refine AWp.cond (b := false) rfl (AWp.skip ?_)
      try dsimp only [AExit.then, AExit.block]
      repeat refine AWp.seq ?_
      refine AWp.reg1 {} hT (fun A hA => by
          have f0 := ar_nlt hA h2
          repeat (cbv; simp only [f0])
          cbv) (Nat.zero_le _) ?_
      try dsimp only [AExit.then, AExit.block]
      repeat refine AWp.seq ?_
      refine AWp.cond (b := false) rfl (AWp.skip ?_)
      try dsimp only [AExit.then, AExit.block]
      repeat refine AWp.seq ?_
      refine AWp.reg1 {} hT (fun A hA => by cbv) (Nat.zero_le _) ?_
      try dsimp only [AExit.then, AExit.block]
      repeat refine AWp.seq ?_
      refine AWp.ret ⟨?_, rfl, rfl, Nat.zero_le _, _, rfl⟩
      rfl

theorem compare_ok (a b a' b' : Int) : ACall P 135 [.d (.list 1 [I a, I b]), .d (.list 1 [I a', I b'])] [] (AI (cmpF (a, b) (a', b'))) [] := by
  have c1 := cmp_ok a a'
  have c2 := cmp_ok b b'
  have hF : cmpF (a, b) (a', b') = if cmpI a a' ≠ 0 then cmpI a a' else cmpI b b' := rfl
  obtain ⟨X, hX, hX0, hX1, hXn⟩ : ∃ X, [I a, I b] = X ∧ X[(0 : Int).toNat]? = some (I a) ∧ X[(1 : Int).toNat]? = some (I b) ∧ (X.length : Int) = 2 := ⟨_, rfl, rfl, rfl, rfl⟩
  obtain ⟨Y, hY, hY0, hY1, hYn⟩ : ∃ X, [I a', I b'] = X ∧ X[(0 : Int).toNat]? = some (I a') ∧ X[(1 : Int).toNat]? = some (I b') ∧ (X.length : Int) = 2 := ⟨_, rfl, rfl, rfl, rfl⟩
  rw [hX, hY, hF]
  obtain ⟨q1, hq1⟩ : ∃ q, cmpI a a' = q := ⟨_, rfl⟩
  obtain ⟨q2, hq2⟩ : ∃ q, cmpI b b' = q := ⟨_, rfl⟩
  rw [hq1] at c1 ⊢
  rw [hq2] at c2 ⊢
  refine ACall.enter hT (fn := Try.f135) Try.func135 rfl (by decide) (by simp [Try.f135]) rfl rfl rfl rfl (Nat.le_refl _) ?_
  repeat refine AWp.seq ?_
  refine AWp.reg1 {} hT (fun A hA => by cbv) (Nat.zero_le _) ?_
  try dsimp only [AExit.then, AExit.block]
  repeat refine AWp.seq ?_
  refine AWp.reg1 {} hT (fun A hA => by
      have f0 := ar_len hA X 2 hXn
      repeat (cbv; simp only [f0])
      cbv) (Nat.zero_le _) ?_
  try dsimp only [AExit.then, AExit.block]
  refine AWp.block (AWp.loopInv (ι := Int) (fun z => (z = 0 ∨ z = 1 ∨ z = 2) ∧ (1 ≤ z → q1 = 0) ∧ (2 ≤ z → q2 = 0)) (fun z => (2 - z).toNat) [0, 1, 9, 10, 11]
    (fun z => { env := [(0, .d (.list 1 X)), (1, .d (.list 1 Y)), (9, .d (.list 1 X)), (10, AI 2), (11, AI z)], heap := [], n := 36 }) 0 (by cbv) ⟨.inl rfl, by omega, by omega⟩ ?_)
  rintro z ⟨h0 | h0 | h0, h1, h2⟩
  · subst h0
    repeat refine AWp.seq ?_
    refine AWp.reg1 {} hT (fun A hA => by
        have f0 := ar_lt hA (show (0 : Int) < 2 by omega)
        repeat (cbv; simp only [f0])
        cbv) (Nat.zero_le _) ?_
    try dsimp only [AExit.then, AExit.block]
    repeat refine AWp.seq ?_
    refine AWp.cond (b := true) rfl (AWp.skip ?_)
    try dsimp only [AExit.then, AExit.block]
    repeat refine AWp.seq ?_
    refine AWp.block ?_
    repeat refine AWp.seq ?_
    refine AWp.reg1 {} hT (fun A hA => by
        have f0 := ar_get hA hX0
        have f1 := ar_le hA (show (0 : Int) ≤ 0 by omega)
        repeat (cbv; simp only [f0, f1])
        cbv) (Nat.zero_le _) ?_
    try dsimp only [AExit.then, AExit.block]
    repeat refine AWp.seq ?_
    refine AWp.reg1 {} hT (fun A hA => by
        have f0 := ar_len hA Y 2 hYn
        have f1 := ar_nle hA (show ¬ (2 : Int) ≤ 0 by omega)
        repeat (cbv; simp only [f0, f1])
        cbv) (Nat.zero_le _) ?_
    try dsimp only [AExit.then, AExit.block]
    repeat refine AWp.seq ?_
    refine AWp.cond (b := false) rfl (AWp.skip ?_)
    try dsimp only [AExit.then, AExit.block]
    repeat refine AWp.seq ?_
    refine AWp.reg1 {} hT (fun A hA => by
        have f0 := ar_get hA hY0
        have f1 := ar_le hA (show (0 : Int) ≤ 0 by omega)
        repeat (cbv; simp only [f0, f1])
        cbv) (Nat.zero_le _) ?_
    try dsimp only [AExit.then, AExit.block]
    repeat refine AWp.seq ?_
    refine AWp.region ?_
    refine AOps.stepCall hT (an := {}) (fun A hA => by cbv) (Nat.zero_le _) rfl (.inr rfl) rfl rfl rfl (Nat.le_of_ble_eq_true rfl) rfl rfl (c1) ?_
    refine AOps.done hT (an := {}) (fun A hA => by cbv) (Nat.zero_le _) ?_
    try dsimp only [AExit.then, AExit.block]
    by_cases e : q1 = 0
    · repeat refine AWp.seq ?_
      refine AWp.reg1 {} hT (fun A hA => by
          have f0 := ar_eq hA e
          repeat (cbv; simp only [f0])
          cbv) (Nat.zero_le _) ?_
      try dsimp only [AExit.then, AExit.block]
      repeat refine AWp.seq ?_
      refine AWp.cond (b := false) rfl (AWp.skip ?_)
      try dsimp only [AExit.then, AExit.block]
      repeat refine AWp.seq ?_
      refine AWp.reg1 {} hT (fun A hA => by
          have f0 := ar_add hA 0 1 1 rfl (by omega) (by omega)
          repeat (cbv; simp only [f0])
          cbv) (Nat.zero_le _) ?_
      try dsimp only [AExit.then, AExit.block]
      exact ⟨1, ⟨by omega, fun _ => e, by omega⟩, by omega, by cbv⟩
    · repeat refine AWp.seq ?_
      refine AWp.reg1 {} hT (fun A hA => by
          have f0 := ar_ne hA e
          repeat (cbv; simp only [f0])
          cbv) (Nat.zero_le _) ?_
      try dsimp only [AExit.then, AExit.block]
      repeat refine AWp.seq ?_
      refine AWp.cond (b := true) rfl ?_
      rw [if_pos rfl]
      repeat refine AWp.seq ?_
      refine AWp.reg1 {} hT (fun A hA => by cbv) (Nat.zero_le _) ?_
      try dsimp only [AExit.then, AExit.block]
      repeat refine AWp.seq ?_
      refine AWp.ret ⟨?_, rfl, rfl, Nat.zero_le _, _, rfl⟩
      rw [if_pos e]; rfl
  · subst h0
    have e1 := h1 (by omega)
    repeat refine AWp.seq ?_
    refine AWp.reg1 {} hT (fun A hA => by
        have f0 := ar_lt hA (show (1 : Int) < 2 by omega)
        repeat (cbv; simp only [f0])
        cbv) (Nat.zero_le _) ?_
    try dsimp only [AExit.then, AExit.block]
    repeat refine AWp.seq ?_
    refine AWp.cond (b := true) rfl (AWp.skip ?_)
    try dsimp only [AExit.then, AExit.block]
    repeat refine AWp.seq ?_
    refine AWp.block ?_
    repeat refine AWp.seq ?_
    refine AWp.reg1 {} hT (fun A hA => by
        have f0 := ar_get hA hX1
        have f1 := ar_le hA (show (0 : Int) ≤ 1 by omega)
        repeat (cbv; simp only [f0, f1])
        cbv) (Nat.zero_le _) ?_
    try dsimp only [AExit.then, AExit.block]
    repeat refine AWp.seq ?_
    refine AWp.reg1 {} hT (fun A hA => by
        have f0 := ar_len hA Y 2 hYn
        have f1 := ar_nle hA (show ¬ (2 : Int) ≤ 1 by omega)
        repeat (cbv; simp only [f0, f1])
        cbv) (Nat.zero_le _) ?_
    try dsimp only [AExit.then, AExit.block]
    repeat refine AWp.seq ?_
    refine AWp.cond (b := false) rfl (AWp.skip ?_)
    try dsimp only [AExit.then, AExit.block]
    repeat refine AWp.seq ?_
    refine AWp.reg1 {} hT (fun A hA => by
        have f0 := ar_get hA hY1
        have f1 := ar_le hA (show (0 : Int) ≤ 1 by omega)
        repeat (cbv; simp only [f0, f1])
        cbv) (Nat.zero_le _) ?_
    try dsimp only [AExit.then, AExit.block]
    repeat refine AWp.seq ?_
    refine AWp.region ?_
    refine AOps.stepCall hT (an := {}) (fun A hA => by cbv) (Nat.zero_le _) rfl (.inr rfl) rfl rfl rfl (Nat.le_of_ble_eq_true rfl) rfl rfl (c2) ?_
    refine AOps.done hT (an := {}) (fun A hA => by cbv) (Nat.zero_le _) ?_
    try dsimp only [AExit.then, AExit.block]
    by_cases e : q2 = 0
    · repeat refine AWp.seq ?_
      refine AWp.reg1 {} hT (fun A hA => by
          have f0 := ar_eq hA e
          repeat (cbv; simp only [f0])
          cbv) (Nat.zero_le _) ?_
      try dsimp only [AExit.then, AExit.block]
      repeat refine AWp.seq ?_
      refine AWp.cond (b := false) rfl (AWp.skip ?_)
      try dsimp only [AExit.then, AExit.block]
      repeat refine AWp.seq ?_
      refine AWp.reg1 {} hT (fun A hA => by
          have f0 := ar_add hA 1 1 2 rfl (by omega) (by omega)
          repeat (cbv; simp only [f0])
          cbv) (Nat.zero_le _) ?_
      try dsimp only [AExit.then, AExit.block]
      exact ⟨2, ⟨by omega, fun _ => e1, fun _ => e⟩, by omega, by cbv⟩
    · repeat refine AWp.seq ?_
      refine AWp.reg1 {} hT (fun A hA => by
          have f0 := ar_ne hA e
          repeat (cbv; simp only [f0])
          cbv) (Nat.zero_le _) ?_
      try dsimp only [AExit.then, AExit.block]
      repeat refine AWp.seq ?_
      refine AWp.cond (b := true) rfl ?_
      rw [if_pos rfl]
      repeat refine AWp.seq ?_
      refine AWp.reg1 {} hT (fun A hA => by cbv) (Nat.zero_le _) ?_
      try dsimp only [AExit.then, AExit.block]
      repeat refine AWp.seq ?_
      refine AWp.ret ⟨?_, rfl, rfl, Nat.zero_le _, _, rfl⟩
      rw [if_neg (by simpa using e1)]; rfl
  · subst h0
    have e1 := h1 (by omega)
    have e2 := h2 (by omega)
    subst e1 e2
    repeat refine AWp.seq ?_
    refine AWp.reg1 {} hT (fun A hA => by
        have f0 := ar_nlt hA (show ¬ (2 : Int) < 2 by omega)
        repeat (cbv; simp only [f0])
        cbv) (Nat.zero_le _) ?_
    try dsimp only [AExit.then, AExit.block]
    repeat refine AWp.seq ?_
    refine AWp.cond (b := false) rfl (AWp.exit ?_)
    try dsimp only [AExit.then, AExit.block]
    rw [if_pos rfl]
    repeat refine AWp.seq ?_
    refine AWp.reg1 {} hT (fun A hA => by
        have f0 := ar_len hA X 2 hXn
        have f1 := ar_len hA Y 2 hYn
        have f2 := ar_nlt hA (show ¬ (2 : Int) < 2 by omega)
        repeat (cbv; simp only [f0, f1, f2])
        cbv) (Nat.zero_le _) ?_
    try dsimp only [AExit.then, AExit.block]
    repeat refine AWp.seq ?_
    refine AWp.cond (b := false) rfl (AWp.skip ?_)
    try dsimp only [AExit.then, AExit.block]
    repeat refine AWp.seq ?_
    refine AWp.reg1 {} hT (fun A hA => by cbv) (Nat.zero_le _) ?_
    try dsimp only [AExit.then, AExit.block]
    repeat refine AWp.seq ?_
    refine AWp.ret ⟨?_, rfl, rfl, Nat.zero_le _, _, rfl⟩
    rfl

theorem index128 (l : List Fen) (s : Fen) (hl : l.length ≤ 9223372036854775807) : ∃ r : Int, decide (0 ≤ r) = l.contains s ∧ ACall P 128 [.d (.list 2 (l.map dFen)), .d (dFen s)] [] (AI r) [] := by
  refine ⟨match l.findIdx? (fun u => decide (s = u)) with | some i => (i : Int) | none => -1, ?_, ?_⟩
  · cases h : l.findIdx? (fun u => decide (s = u)) with
    | none =>
      rw [List.findIdx?_eq_none_iff] at h
      have : l.contains s = false := by
        rw [List.contains_eq_mem, decide_eq_false_iff_not]
        intro hm
        have := h s hm
        simp at this
      rw [this]; rfl
    | some i =>
      obtain ⟨h1, h2, _⟩ := List.findIdx?_eq_some_iff_getElem.1 h
      have : l.contains s = true := by
        rw [List.contains_eq_mem, decide_eq_true_eq, of_decide_eq_true h2]
        exact List.getElem_mem h1
      rw [this]; simp
  obtain ⟨X, hX⟩ : ∃ X, l.map dFen = X := ⟨_, rfl⟩
  obtain ⟨n, hn⟩ : ∃ n : Int, (X.length : Int) = n := ⟨_, rfl⟩
  have hln : (l.length : Int) = n := by rw [← hn, ← hX]; simp
  obtain ⟨a, b⟩ := s
  rw [hX]
  unfold dFen
  dsimp only
  refine ACall.enter hT (fn := Try.f128) Try.func128 rfl (by decide) (by simp [Try.f128]) rfl rfl rfl rfl (Nat.le_refl _) ?_
  repeat refine AWp.seq ?_
  refine AWp.reg1 {} hT (fun A hA => by cbv) (Nat.zero_le _) ?_
  try dsimp only [AExit.then, AExit.block]
  repeat refine AWp.seq ?_
  refine AWp.reg1 {} hT (fun A hA => by
      have f0 := ar_len hA X n hn
      repeat (cbv; simp only [f0])
      cbv) (Nat.zero_le _) ?_
  try dsimp only [AExit.then, AExit.block]
  refine AWp.block (AWp.loopInv (ι := Int) (fun z => 0 ≤ z ∧ z ≤ n ∧ ∀ u ∈ l.take z.toNat, decide ((a, b) = u) = false) (fun z => (n - z).toNat) [0, 3, 6, 7, 8]
    (fun z => { env := [(0, .d (.list 2 X)), (3, .lbox [AI a, AI b]), (6, .d (.list 2 X)), (7, AI n), (8, AI z)], heap := [], n := 19 }) 0 (by cbv) ⟨Int.le_refl _, by omega, by simp⟩ ?_)
  rintro z ⟨h0, h1, h2⟩
  by_cases hz : z < n
  · obtain ⟨z1, hz1⟩ : ∃ z1, z + 1 = z1 := ⟨_, rfl⟩
    obtain ⟨⟨a', b'⟩, hs⟩ : ∃ s, l[z.toNat]? = some s := ⟨_, List.getElem?_eq_getElem (by omega)⟩
    have hXs : X[z.toNat]? = some (.agg [I a', I b']) := by rw [← hX, List.getElem?_map, hs]; rfl
    obtain ⟨r, hr⟩ : ∃ r, decide ((a, b) = (a', b')) = r := ⟨_, rfl⟩
    have hdeq : ∀ A : Ar, A = Ar.std → A.deq [I a, I b] [I a', I b'] = r := fun A hA => ar_deq hA (by rw [← hr]; simp)
    repeat refine AWp.seq ?_
    refine AWp.reg1 {} hT (fun A hA => by
        have f0 := ar_lt hA hz
        repeat (cbv; simp only [f0])
        cbv) (Nat.zero_le _) ?_
    try dsimp only [AExit.then, AExit.block]
    repeat refine AWp.seq ?_
    refine AWp.cond (b := true) rfl (AWp.skip ?_)
    try dsimp only [AExit.then, AExit.block]
    repeat refine AWp.seq ?_
    refine AWp.block ?_
    repeat refine AWp.seq ?_
    refine AWp.reg1 {} hT (fun A hA => by cbv) (Nat.zero_le _) ?_
    try dsimp only [AExit.then, AExit.block]
    cases r with
    | true =>
      repeat refine AWp.seq ?_
      refine AWp.reg1D {} hT rfl (fun A hA => by
          have f0 := ar_get hA hXs
          have f1 := ar_le hA h0
          have f2 := hdeq A hA
          repeat (cbv; simp only [f0, f1, f2])
          cbv) (by kernel_rfl) (Nat.zero_le _) ?_
      try dsimp only [AExit.then, AExit.block]
      repeat refine AWp.seq ?_
      refine AWp.cond (b := true) rfl ?_
      rw [if_pos rfl]
      repeat refine AWp.seq ?_
      refine AWp.reg1 {} hT (fun A hA => by cbv) (Nat.zero_le _) ?_
      try dsimp only [AExit.then, AExit.block]
      repeat refine AWp.seq ?_
      refine AWp.ret ⟨?_, rfl, rfl, Nat.zero_le _, _, rfl⟩
      have : l.findIdx? (fun u => decide ((a, b) = u)) = some z.toNat := by
        rw [List.findIdx?_eq_some_iff_getElem]
        refine ⟨by omega, ?_, fun j hj => ?_⟩
        · rw [List.getElem?_eq_getElem (by omega)] at hs; injection hs with hs; rw [hs]; exact hr
        · have := h2 l[j] (by rw [List.mem_take_iff_getElem]; exact ⟨j, by omega, rfl⟩)
          rw [this]; decide
      rw [this]
      show _ = some (AI (z.toNat : Int))
      rw [show (z.toNat : Int) = z by omega]
      rfl
    | false =>
      repeat refine AWp.seq ?_
      refine AWp.reg1D {} hT rfl (fun A hA => by
          have f0 := ar_get hA hXs
          have f1 := ar_le hA h0
          have f2 := hdeq A hA
          repeat (cbv; simp only [f0, f1, f2])
          cbv) (by kernel_rfl) (Nat.zero_le _) ?_
      try dsimp only [AExit.then, AExit.block]
      repeat refine AWp.seq ?_
      refine AWp.cond (b := false) rfl (AWp.skip ?_)
      try dsimp only [AExit.then, AExit.block]
      repeat refine AWp.seq ?_
      refine AWp.reg1 {} hT (fun A hA => by
          have f0 := ar_add hA z 1 z1 hz1 (by omega) (by omega)
          repeat (cbv; simp only [f0])
          cbv) (Nat.zero_le _) ?_
      try dsimp only [AExit.then, AExit.block]
      refine ⟨z1, ⟨by omega, by omega, ?_⟩, by omega, by cbv⟩
      intro u hu
      rw [show z1.toNat = z.toNat + 1 by omega, List.take_add_one, hs] at hu
      simp only [Option.toList_some, List.mem_append, List.mem_singleton] at hu
      rcases hu with hu | rfl
      · exact h2 u hu
      · exact hr
  · repeat refine AWp.seq ?_
    refine AWp.reg1 {} hT (fun A hA => by
        have f0 := ar_nlt hA hz
        repeat (cbv; simp only [f0])
        cbv) (Nat.zero_le _) ?_
    try dsimp only [AExit.then, AExit.block]
    repeat refine AWp.seq ?_
    refine AWp.cond (b := false) rfl (AWp.exit ?_)
    try dsimp only [AExit.then, AExit.block]
    rw [if_pos rfl]
    repeat refine AWp.seq ?_
    refine AWp.reg1 {} hT (fun A hA => by cbv) (Nat.zero_le _) ?_
    try dsimp only [AExit.then, AExit.block]
    repeat refine AWp.seq ?_
    refine AWp.ret ⟨?_, rfl, rfl, Nat.zero_le _, _, rfl⟩
    have : l.findIdx? (fun u => decide ((a, b) = u)) = none := by
      rw [List.findIdx?_eq_none_iff]
      intro y hy
      exact h2 y (by rw [List.take_of_length_le (by omega)]; exact hy)
    rw [this]
    rfl

theorem contains_fen_ok (l : List Fen) (s : Fen) (hl : l.length ≤ 9223372036854775807) : ACall P 96 [.d (.list 2 (l.map dFen)), .d (dFen s)] [] (AB (l.contains s)) [] := by
  obtain ⟨r, hr, hc⟩ := index128 l s hl
  obtain ⟨b, hb⟩ : ∃ b, l.contains s = b := ⟨_, rfl⟩
  rw [hb] at hr ⊢
  obtain ⟨X, hX⟩ : ∃ X, l.map dFen = X := ⟨_, rfl⟩
  rw [hX] at hc ⊢
  obtain ⟨a, b'⟩ := s
  unfold dFen at *
  dsimp only at *
  have hrb : ∀ A : Ar, A = Ar.std → A.zle 0 r = b := fun A hA => by subst hA; exact hr
  refine ACall.enter hT (fn := Try.f96) Try.func96 rfl (by decide) (by simp [Try.f96]) rfl rfl rfl rfl (Nat.le_refl _) ?_
  repeat refine AWp.seq ?_
  refine AWp.reg1 {} hT (fun A hA => by cbv) (Nat.zero_le _) ?_
  try dsimp only [AExit.then, AExit.block]
  repeat refine AWp.seq ?_
  refine AWp.region ?_
  refine AOps.stepCall hT (an := {}) (fun A hA => by cbv) (Nat.zero_le _) rfl (.inr rfl) rfl rfl rfl (Nat.le_of_ble_eq_true rfl) rfl rfl (hc) ?_
  refine AOps.done hT (an := {}) (fun A hA => by
      have f0 := hrb A hA
      repeat (cbv; simp only [f0])
      cbv) (Nat.zero_le _) ?_
  try dsimp only [AExit.then, AExit.block]
  repeat refine AWp.seq ?_
  refine AWp.ret ⟨?_, rfl, rfl, Nat.zero_le _, _, rfl⟩
  rfl

/-- All places for fences. -/
def fenRow (t n : Nat) : List Fen := (List.range n).map fun (g : Nat) => ((t : Int), (g : Int))
def fenT (x : List (List Acc)) (n : Nat) : List Fen := (List.range n).flatMap fun t => fenRow t ((x.getD t []).length - 1)
def fencesL (x : List (List Acc)) : List Fen := fenT x x.length
theorem fencesL_ok (x : List (List Acc)) (hx : Small x) : ACall P 104 [.d (dX x)] [] (.own 2 ((fencesL x).map dFen)) [] := by
  unfold dX at *
  obtain ⟨X, hX⟩ : ∃ X, x.map dAccs = X := ⟨_, rfl⟩
  obtain ⟨n, hn⟩ : ∃ n : Int, (X.length : Int) = n := ⟨_, rfl⟩
  have hxl : (x.length : Int) = n := by rw [← hn, ← hX]; simp
  have hs := hx.1
  rw [hX]
  have hS : ∀ m, fenT x (m + 1) = fenT x m ++ fenRow m ((x.getD m []).length - 1) := fun m => flatMap_range_succ _ _
  have hSA : ∀ t m, fenRow t (m + 1) = fenRow t m ++ [((t : Int), (m : Int))] := fun t m => by unfold fenRow; rw [List.range_succ, List.map_append]; rfl
  refine ACall.enter hT (fn := Try.f104) Try.func104 rfl (by decide) (by simp [Try.f104]) rfl rfl rfl rfl (Nat.le_refl _) ?_
  repeat refine AWp.seq ?_
  refine AWp.reg1 {tk := [2]} hT (fun A hA => by cbv) (Nat.zero_le _) ?_
  try dsimp only [AExit.then, AExit.block]
  repeat refine AWp.seq ?_
  refine AWp.reg1 {tk := [3]} hT (fun A hA => by cbv) (Nat.zero_le _) ?_
  try dsimp only [AExit.then, AExit.block]
  repeat refine AWp.seq ?_
  refine AWp.reg1 {} hT (fun A hA => by
      have f0 := ar_len hA X n hn
      repeat (cbv; simp only [f0])
      cbv) (Nat.zero_le _) ?_
  try dsimp only [AExit.then, AExit.block]
  refine AWp.block (AWp.loopInv (ι := Int × List D) (fun p => 0 ≤ p.1 ∧ p.1 ≤ n ∧ p.2 = (fenT x p.1.toNat).map dFen ∧ p.2.length ≤ p.1 * 1000) (fun p => (n - p.1).toNat) [0, 3, 7, 8, 9]
    (fun p => { env := [(0, .d (.list 1 X)), (3, .own 2 p.2), (7, .d (.list 1 X)), (8, AI n), (9, AI p.1)], heap := [], n := 30 }) (0, []) (by cbv) ⟨Int.le_refl _, by dsimp only; omega, rfl, by simp⟩ ?_)
  rintro ⟨z, l⟩ ⟨h0, h1, hl, hlen⟩
  dsimp only at *
  by_cases hz : z < n
  · obtain ⟨L, hL⟩ : ∃ L, x[z.toNat]? = some L := ⟨_, List.getElem?_eq_getElem (by omega)⟩
    obtain ⟨L', hL'⟩ : ∃ L', L.map dAcc = L' := ⟨_, rfl⟩
    obtain ⟨k, hk⟩ : ∃ n : Int, (L'.length : Int) = n := ⟨_, rfl⟩
    have hkL : (L.length : Int) = k := by rw [← hk, ← hL']; simp
    have hs2 := hx.2 L (List.mem_of_getElem? hL)
    have hXt : X[z.toNat]? = some (.list 2 L') := by rw [← hX, List.getElem?_map, hL, ← hL']; rfl
    obtain ⟨z1, hz1⟩ : ∃ z1, z + 1 = z1 := ⟨_, rfl⟩
    obtain ⟨k1, hk1⟩ : ∃ z1, k - 1 = z1 := ⟨_, rfl⟩
    obtain ⟨m, hm⟩ : ∃ m, max 0 k1 = m := ⟨_, rfl⟩
    have hmax : ∀ A : Ar, A = Ar.std → A.zmax 0 k1 = m := fun A hA => by subst hA; rw [← hm]; simp only [Ar.std]; split <;> omega
    have hmL : m.toNat = L.length - 1 := by omega
    repeat refine AWp.seq ?_
    refine AWp.reg1 {} hT (fun A hA => by
        have f0 := ar_lt hA hz
        repeat (cbv; simp only [f0])
        cbv) (Nat.zero_le _) ?_
    try dsimp only [AExit.then, AExit.block]
    repeat refine AWp.seq ?_
    refine AWp.cond (b := true) rfl (AWp.skip ?_)
    try dsimp only [AExit.then, AExit.block]
    repeat refine AWp.seq ?_
    refine AWp.block ?_
    repeat refine AWp.seq ?_
    refine AWp.reg1 {} hT (fun A hA => by
        have f0 := ar_get hA hXt
        have f1 := ar_le hA h0
        repeat (cbv; simp only [f0, f1])
        cbv) (Nat.zero_le _) ?_
    try dsimp only [AExit.then, AExit.block]
    repeat refine AWp.seq ?_
    refine AWp.reg1 {} hT (fun A hA => by
        have f0 := ar_len hA L' k hk
        have f1 := ar_sub hA k 1 k1 hk1 (by omega) (by omega)
        have f2 := hmax A hA
        repeat (cbv; simp only [f0, f1, f2])
        cbv) (Nat.zero_le _) ?_
    try dsimp only [AExit.then, AExit.block]
    refine AWp.block (AWp.loopInv (ι := Int × List D) (fun p => 0 ≤ p.1 ∧ p.1 ≤ m ∧ p.2 = l ++ (fenRow z.toNat p.1.toNat).map dFen ∧ p.2.length ≤ z * 1000 + p.1) (fun p => (m - p.1).toNat) [0, 3, 4, 7, 8, 9, 17, 18]
      (fun p => { env := [(0, .d (.list 1 X)), (3, .own 2 p.2), (4, AI z), (7, .d (.list 1 X)), (8, AI n), (9, AI z), (17, AI m), (18, AI p.1)], heap := [], n := 30 }) (0, l) (by cbv) ⟨Int.le_refl _, by dsimp only; omega, by simp [fenRow], by simpa using hlen⟩ ?_)
    rintro ⟨y, l1⟩ ⟨g0, g1, gl, glen⟩
    dsimp only at *
    by_cases hy : y < m
    · obtain ⟨y1, hy1⟩ : ∃ z1, y + 1 = z1 := ⟨_, rfl⟩
      obtain ⟨l3, hl3⟩ : ∃ l3, l1 ++ [.agg [I z, I y]] = l3 := ⟨_, rfl⟩
      repeat refine AWp.seq ?_
      refine AWp.reg1 {} hT (fun A hA => by
          have f0 := ar_lt hA hy
          repeat (cbv; simp only [f0])
          cbv) (Nat.zero_le _) ?_
      try dsimp only [AExit.then, AExit.block]
      repeat refine AWp.seq ?_
      refine AWp.cond (b := true) rfl (AWp.skip ?_)
      try dsimp only [AExit.then, AExit.block]
      repeat refine AWp.seq ?_
      refine AWp.block ?_
      repeat refine AWp.seq ?_
      refine AWp.reg1 {} hT (fun A hA => by cbv) (Nat.zero_le _) ?_
      try dsimp only [AExit.then, AExit.block]
      repeat refine AWp.seq ?_
      refine AWp.reg1 {tk := [3, 21, 26]} hT (fun A hA => by
          have f0 := ar_app hA _ _ _ hl3
          have f1 := ar_fits hA l1 [.agg [I z, I y]] (by simp; omega)
          repeat (cbv; simp only [f0, f1])
          cbv) (Nat.zero_le _) ?_
      try dsimp only [AExit.then, AExit.block]
      repeat refine AWp.seq ?_
      refine AWp.reg1 {} hT (fun A hA => by
          have f0 := ar_add hA y 1 y1 hy1 (by omega) (by omega)
          repeat (cbv; simp only [f0])
          cbv) (Nat.zero_le _) ?_
      try dsimp only [AExit.then, AExit.block]
      refine ⟨(y1, l3), ⟨by dsimp only; omega, by dsimp only; omega, ?_, by rw [← hl3]; simp; omega⟩, by dsimp only; omega, by cbv⟩
      dsimp only
      rw [show y1.toNat = y.toNat + 1 by omega, hSA, List.map_append, ← List.append_assoc, ← gl, ← hl3, show (z.toNat : Int) = z by omega, show (y.toNat : Int) = y by omega]
      rfl
    · repeat refine AWp.seq ?_
      refine AWp.reg1 {} hT (fun A hA => by
          have f0 := ar_nlt hA hy
          repeat (cbv; simp only [f0])
          cbv) (Nat.zero_le _) ?_
      try dsimp only [AExit.then, AExit.block]
      repeat refine AWp.seq ?_
      refine AWp.cond (b := false) rfl (AWp.exit ?_)
      try dsimp only [AExit.then, AExit.block]
      rw [if_pos rfl]
      repeat refine AWp.seq ?_
      refine AWp.reg1 {} hT (fun A hA => by
          have f0 := ar_add hA z 1 z1 hz1 (by omega) (by omega)
          repeat (cbv; simp only [f0])
          cbv) (Nat.zero_le _) ?_
      try dsimp only [AExit.then, AExit.block]
      refine ⟨(z1, l1), ⟨by dsimp only; omega, by dsimp only; omega, ?_, by dsimp only; omega⟩, by dsimp only; omega, by cbv⟩
      dsimp only
      rw [show z1.toNat = z.toNat + 1 by omega, hS, List.map_append, ← hl, List.getD_eq_getElem?_getD, hL, gl, show y.toNat = L.length - 1 by omega]
      rfl
  · repeat refine AWp.seq ?_
    refine AWp.reg1 {} hT (fun A hA => by
        have f0 := ar_nlt hA hz
        repeat (cbv; simp only [f0])
        cbv) (Nat.zero_le _) ?_
    try dsimp only [AExit.then, AExit.block]
    repeat refine AWp.seq ?_
    refine AWp.cond (b := false) rfl (AWp.exit ?_)
    try dsimp only [AExit.then, AExit.block]
    rw [if_pos rfl]
    repeat refine AWp.seq ?_
    refine AWp.reg1 {tk := [3, 29]} hT (fun A hA => by cbv) (Nat.zero_le _) ?_
    try dsimp only [AExit.then, AExit.block]
    repeat refine AWp.seq ?_
    refine AWp.ret ⟨?_, rfl, rfl, Nat.zero_le _, _, rfl⟩
    rw [fencesL, show x.length = z.toNat by omega, ← hl]; rfl
end Go.Am

set_option maxRecDepth 100000
set_option linter.unusedVariables false
set_option linter.unusedSimpArgs false
namespace Go.Am
open Go Go.Proofs

def fenAt (x : List (List Acc)) (l : List Fen) (i : Nat) : Bool := (fencesL x).contains (l.getD i (0, 0)) && (decide (i = 0) || !decide (0 ≤ cmpF (l.getD (i - 1) (0, 0)) (l.getD i (0, 0))))
def fencesB (x : List (List Acc)) (l : List Fen) : Bool := (List.range l.length).all (fenAt x l)

theorem fences_ok (x : List (List Acc)) (l : List Fen) (hx : Small x) (hal : (fencesL x).length ≤ 1000000000) (hl : l.length ≤ 1000000000) :
    ACall P 121 [.d (dX x), .d (.list 2 (l.map dFen))] [] (.tuple (if fencesB x l then [.d (.list 2 (l.map dFen)), AB true] else [.d (.list 2 []), AB false])) [] := by
  have call := fencesL_ok x hx
  have ccn := fun s => contains_fen_ok (fencesL x) s (by omega)
  have ccm := compare_ok
  have hat : ∀ i, fenAt x l i = ((fencesL x).contains (l.getD i (0, 0)) && (decide (i = 0) || !decide (0 ≤ cmpF (l.getD (i - 1) (0, 0)) (l.getD i (0, 0))))) := fun i => rfl
  obtain ⟨F, hF⟩ : ∃ F, fencesB x l = F := ⟨_, rfl⟩
  rw [hF]
  unfold fencesB at hF
  obtain ⟨at_, hat'⟩ : ∃ f, fenAt x l = f := ⟨_, rfl⟩
  rw [hat'] at hat hF
  obtain ⟨all, hall⟩ : ∃ f, fencesL x = f := ⟨_, rfl⟩
  rw [hall] at call hat
  simp only [hall] at ccn
  obtain ⟨AL, hAL⟩ : ∃ f, all.map dFen = f := ⟨_, rfl⟩
  rw [hAL] at call
  simp only [hAL] at ccn
  obtain ⟨X, hX⟩ : ∃ X, dX x = X := ⟨_, rfl⟩
  obtain ⟨L, hL⟩ : ∃ X, l.map dFen = X := ⟨_, rfl⟩
  obtain ⟨n, hn⟩ : ∃ n : Int, (L.length : Int) = n := ⟨_, rfl⟩
  have hln : (l.length : Int) = n := by rw [← hn, ← hL]; simp
  rw [hX] at call ⊢
  rw [hL]
  have hno : ∀ i, i < l.length → at_ i = false → F = false := fun i hi h => by
    rw [← hF, List.all_eq_false]; exact ⟨i, by simpa using hi, by rw [h]; decide⟩
  refine ACall.enter hT (fn := Try.f121) Try.func121 rfl (by decide) (by simp [Try.f121]) rfl rfl (by cases F <;> rfl) rfl (Nat.le_refl _) ?_
  repeat refine AWp.seq ?_
  refine AWp.reg1 {tk := [4]} hT (fun A hA => by cbv) (Nat.zero_le _) ?_
  try dsimp only [AExit.then, AExit.block]
  repeat refine AWp.seq ?_
  refine AWp.region ?_
  refine AOps.stepCall hT (an := {}) (fun A hA => by cbv) (Nat.zero_le _) rfl (.inr rfl) rfl rfl rfl (Nat.le_of_ble_eq_true rfl) rfl rfl (call) ?_
  refine AOps.done hT (an := {}) (fun A hA => by cbv) (Nat.zero_le _) ?_
  try dsimp only [AExit.then, AExit.block]
  repeat refine AWp.seq ?_
  refine AWp.reg1 {tk := [7]} hT (fun A hA => by cbv) (Nat.zero_le _) ?_
  try dsimp only [AExit.then, AExit.block]
  repeat refine AWp.seq ?_
  refine AWp.reg1 {} hT (fun A hA => by
      have f0 := ar_len hA L n hn
      repeat (cbv; simp only [f0])
      cbv) (Nat.zero_le _) ?_
  try dsimp only [AExit.then, AExit.block]
  refine AWp.block (AWp.loopInv (ι := Int × List D) (fun p => 0 ≤ p.1 ∧ p.1 ≤ n ∧ p.2 = L.take p.1.toNat ∧ ∀ i, i < p.1.toNat → at_ i = true) (fun p => (n - p.1).toNat) [1, 6, 7, 12, 13, 14]
    (fun p => { env := [(1, .d (.list 2 L)), (6, .d (.list 2 AL)), (7, .own 2 p.2), (12, .d (.list 2 L)), (13, AI n), (14, AI p.1)], heap := [], n := 43 }) (0, []) (by cbv) ⟨Int.le_refl _, by dsimp only; omega, by simp, by simp⟩ ?_)
  rintro ⟨z, O⟩ ⟨h0, h1, h2, h3⟩
  dsimp only at *
  by_cases hz : z < n
  · obtain ⟨⟨a, b⟩, hs⟩ : ∃ s, l[z.toNat]? = some s := ⟨_, List.getElem?_eq_getElem (by omega)⟩
    have hLz : L[z.toNat]? = some (.agg [I a, I b]) := by rw [← hL, List.getElem?_map, hs]; rfl
    obtain ⟨z1, hz1⟩ : ∃ z1, z + 1 = z1 := ⟨_, rfl⟩
    have hz1n : z1.toNat = z.toNat + 1 := by omega
    have hatz := hat z.toNat
    rw [List.getD_eq_getElem?_getD (i := z.toNat), hs] at hatz
    simp only [Option.getD_some] at hatz
    have c1 := ccn (a, b)
    obtain ⟨r1, hr1⟩ : ∃ r, all.contains (a, b) = r := ⟨_, rfl⟩
    rw [hr1] at c1 hatz
    unfold dFen at c1
    dsimp only at c1
    have hno' := hno z.toNat (by omega)
    have hOl : O.length ≤ 1000000000 := by rw [h2]; simp; omega
    obtain ⟨O1, hO1⟩ : ∃ l3, O ++ [.agg [I a, I b]] = l3 := ⟨_, rfl⟩
    have hO1' : O1 = L.take z1.toNat := by rw [← hO1, h2, hz1n, List.take_add_one, hLz]; rfl
    repeat refine AWp.seq ?_
    refine AWp.reg1 {} hT (fun A hA => by
        have f0 := ar_lt hA hz
        repeat (cbv; simp only [f0])
        cbv) (Nat.zero_le _) ?_
    try dsimp only [AExit.then, AExit.block]
    repeat refine AWp.seq ?_
    refine AWp.cond (b := true) rfl (AWp.skip ?_)
    try dsimp only [AExit.then, AExit.block]
    repeat refine AWp.seq ?_
    refine AWp.block ?_
    repeat refine AWp.seq ?_
    refine AWp.reg1 {} hT (fun A hA => by
        have f0 := ar_get hA hLz
        have f1 := ar_le hA h0
        repeat (cbv; simp only [f0, f1])
        cbv) (Nat.zero_le _) ?_
    try dsimp only [AExit.then, AExit.block]
    refine AWp.freezeBox 9 [I a, I b] rfl rfl ?_
    refine AWp.cut (fun σ' => at_ z.toNat = true ∧ σ'.keep [1, 6, 7, 9, 12, 13, 14] = { env := [(1, .d (.list 2 L)), (6, .d (.list 2 AL)), (7, .own 2 O), (9, .iptr [I a, I b]), (12, .d (.list 2 L)), (13, AI n), (14, AI z)], heap := [], n := 43 }) ?_ ?_
    · by_cases hz0 : 0 < z
      · obtain ⟨⟨a', b'⟩, hs'⟩ : ∃ s, l[(z - 1).toNat]? = some s := ⟨_, List.getElem?_eq_getElem (by omega)⟩
        obtain ⟨y, hy⟩ : ∃ y, z - 1 = y := ⟨_, rfl⟩
        have hLy : L[y.toNat]? = some (.agg [I a', I b']) := by rw [← hL, List.getElem?_map, ← hy, hs']; rfl
        rw [show z.toNat - 1 = (z - 1).toNat by omega, List.getD_eq_getElem?_getD, hs'] at hatz
        simp only [Option.getD_some] at hatz
        have c2 := ccm a' b' a b
        obtain ⟨q, hq⟩ : ∃ r, cmpF (a', b') (a, b) = r := ⟨_, rfl⟩
        rw [hq] at c2
        simp only [Option.getD_some, hq] at hatz
        obtain ⟨r2, hr2⟩ : ∃ r, decide (0 ≤ q) = r := ⟨_, rfl⟩
        have hle : ∀ A : Ar, A = Ar.std → A.zle 0 q = r2 := fun A hA => by subst hA; exact hr2
        rw [hr2, show decide (z.toNat = 0) = false by simp; omega] at hatz
        repeat refine AWp.seq ?_
        refine AWp.regionDraw rfl (Nat.zero_le _) ?_
        refine DOps.stepCall hT (an := {}) rfl (fun A hA => by cbv) rfl rfl (Nat.le_of_ble_eq_true rfl) rfl rfl (c1) ?_
        cases r1 with
        | false =>
          refine DOps.done hT (an := {}) rfl (fun A hA => by
              have f0 := ar_lt hA hz0
              repeat (cbv; simp only [f0])
              cbv) (by kernel_rfl) ?_
          try dsimp only [AExit.then, AExit.block]
          repeat refine AWp.seq ?_
          refine AWp.cond (b := true) rfl ?_
          rw [if_pos rfl]
          repeat refine AWp.seq ?_
          refine AWp.reg1 {} hT (fun A hA => by cbv) (Nat.zero_le _) ?_
          try dsimp only [AExit.then, AExit.block]
          obtain rfl := hno' (by rw [hatz]; rfl)
          repeat refine AWp.seq ?_
          refine AWp.ret ⟨?_, rfl, rfl, Nat.zero_le _, _, rfl⟩
          rfl
        | true =>
          refine DOps.stepCall hT (an := {}) rfl (fun A hA => by
              have f0 := ar_lt hA hz0
              have f1 := ar_sub hA z 1 y hy (by omega) (by omega)
              have f2 := ar_get hA hLy
              have f3 := ar_le hA (show 0 ≤ y by omega)
              repeat (cbv; simp only [f0, f1, f2, f3])
              cbv) rfl rfl (Nat.le_of_ble_eq_true rfl) rfl rfl (c2) ?_
          refine DOps.done hT (an := {}) rfl (fun A hA => by
              have f0 := hle A hA
              repeat (cbv; simp only [f0])
              cbv) (by kernel_rfl) ?_
          try dsimp only [AExit.then, AExit.block]
          cases r2 with
          | true =>
            repeat refine AWp.seq ?_
            refine AWp.cond (b := true) rfl ?_
            rw [if_pos rfl]
            repeat refine AWp.seq ?_
            refine AWp.reg1 {} hT (fun A hA => by cbv) (Nat.zero_le _) ?_
            try dsimp only [AExit.then, AExit.block]
            obtain rfl := hno' (by rw [hatz]; rfl)
            repeat refine AWp.seq ?_
            refine AWp.ret ⟨?_, rfl, rfl, Nat.zero_le _, _, rfl⟩
            rfl
          | false =>
            repeat refine AWp.seq ?_
            refine AWp.cond (b := false) rfl (AWp.skip ?_)
            try dsimp only [AExit.then, AExit.block]
            exact ⟨by rw [hatz]; rfl, by cbv⟩
      · rw [show decide (z.toNat = 0) = true by simp; omega] at hatz
        repeat refine AWp.seq ?_
        refine AWp.regionDraw rfl (Nat.zero_le _) ?_
        refine DOps.stepCall hT (an := {}) rfl (fun A hA => by cbv) rfl rfl (Nat.le_of_ble_eq_true rfl) rfl rfl (c1) ?_
        cases r1 with
        | false =>
          refine DOps.done hT (an := {}) rfl (fun A hA => by
              have f0 := ar_nlt hA hz0
              repeat (cbv; simp only [f0])
              cbv) (by kernel_rfl) ?_
          try dsimp only [AExit.then, AExit.block]
          repeat refine AWp.seq ?_
          refine AWp.cond (b := true) rfl ?_
          rw [if_pos rfl]
          repeat refine AWp.seq ?_
          refine AWp.reg1 {} hT (fun A hA => by cbv) (Nat.zero_le _) ?_
          try dsimp only [AExit.then, AExit.block]
          obtain rfl := hno' (by rw [hatz]; rfl)
          repeat refine AWp.seq ?_
          refine AWp.ret ⟨?_, rfl, rfl, Nat.zero_le _, _, rfl⟩
          rfl
        | true =>
          refine DOps.done hT (an := {}) rfl (fun A hA => by
              have f0 := ar_nlt hA hz0
              repeat (cbv; simp only [f0])
              cbv) (by kernel_rfl) ?_
          try dsimp only [AExit.then, AExit.block]
          repeat refine AWp.seq ?_
          refine AWp.cond (b := false) rfl (AWp.skip ?_)
          try dsimp only [AExit.then, AExit.block]
          exact ⟨by rw [hatz]; rfl, by cbv⟩
    · rintro σ1 ⟨hatt, hσ1⟩
      refine AWp.keep [1, 6, 7, 9, 12, 13, 14] ?_
      rw [hσ1]
      repeat refine AWp.seq ?_
      refine AWp.reg1 {tk := [7, 37, 40]} hT (fun A hA => by
          have f0 := ar_app hA _ _ _ hO1
          have f1 := ar_fits hA O [.agg [I a, I b]] (by simp; omega)
          repeat (cbv; simp only [f0, f1])
          cbv) (Nat.zero_le _) ?_
      try dsimp only [AExit.then, AExit.block]
      repeat refine AWp.seq ?_
      refine AWp.reg1 {} hT (fun A hA => by
          have f0 := ar_add hA z 1 z1 hz1 (by omega) (by omega)
          repeat (cbv; simp only [f0])
          cbv) (Nat.zero_le _) ?_
      try dsimp only [AExit.then, AExit.block]
      refine ⟨(z1, O1), ⟨by dsimp only; omega, by dsimp only; omega, hO1', fun i hi => ?_⟩, by dsimp only; omega, by cbv⟩
      dsimp only at hi
      rcases Nat.lt_or_ge i z.toNat with h | h
      · exact h3 i h
      · rw [show i = z.toNat by omega, hatt]
  · have hFt : F = true := by
      rw [← hF, List.all_eq_true]
      exact fun i hi => h3 i (by have := List.mem_range.1 hi; omega)
    subst hFt
    rw [List.take_of_length_le (by omega)] at h2
    subst h2
    repeat refine AWp.seq ?_
    refine AWp.reg1 {} hT (fun A hA => by
        have f0 := ar_nlt hA hz
        repeat (cbv; simp only [f0])
        cbv) (Nat.zero_le _) ?_
    try dsimp only [AExit.then, AExit.block]
    repeat refine AWp.seq ?_
    refine AWp.cond (b := false) rfl (AWp.exit ?_)
    try dsimp only [AExit.then, AExit.block]
    rw [if_pos rfl]
    repeat refine AWp.seq ?_
    refine AWp.reg1 {tk := [7, 42]} hT (fun A hA => by cbv) (Nat.zero_le _) ?_
    try dsimp only [AExit.then, AExit.block]
    repeat refine AWp.seq ?_
    refine AWp.ret ⟨?_, rfl, rfl, Nat.zero_le _, _, rfl⟩
    rfl
end Go.Am

set_option maxRecDepth 100000
set_option linter.unusedVariables false
set_option linter.unusedSimpArgs false
namespace Go.Am
open Go Go.Proofs

theorem index119 (x : List (Fen)) (hx : x.length ≤ 9223372036854775807) (f : FuncId) (bs : List AV) (H : List Obj) (p : Fen → Bool) (hin : objsInb H.length H = true) (hbs : inbL H.length bs = true) (hbf : bs.all AV.free = true)
    (hp : ∀ l ∈ x, ACall P f (.d (dFen l) :: bs) H (AB (p l)) H) : ∃ r : Int, (decide (0 ≤ r) = x.any p) ∧ ACall P 136 [.d (.list 2 (x.map dFen)), .func f [] bs] H (AI r) H := by
  refine ⟨match x.findIdx? p with | some i => (i : Int) | none => -1, ?_, ?_⟩
  · cases h : x.findIdx? p with
    | none =>
      rw [List.findIdx?_eq_none_iff] at h
      have : x.any p = false := List.any_eq_false.2 (fun y hy => by rw [h y hy]; exact Bool.false_ne_true)
      rw [this]; rfl
    | some i =>
      obtain ⟨h1, h2, _⟩ := List.findIdx?_eq_some_iff_getElem.1 h
      have : x.any p = true := List.any_eq_true.2 ⟨_, List.getElem_mem h1, h2⟩
      rw [this]; simp
  obtain ⟨X, hX⟩ : ∃ X, x.map dFen = X := ⟨_, rfl⟩
  obtain ⟨n, hn⟩ : ∃ n : Int, (X.length : Int) = n := ⟨_, rfl⟩
  have hxl : (x.length : Int) = n := by rw [← hn, ← hX]; simp
  rw [hX]
  refine ACall.enter hT (fn := Try.f136) Try.func136 rfl (by decide) (by simp [Try.f136]) rfl rfl rfl hin (Nat.le_refl _) ?_
  repeat refine AWp.seq ?_
  refine AWp.reg1 {} hT (fun A hA => by cbv) (Nat.le_refl _) ?_
  try dsimp only [AExit.then, AExit.block]
  repeat refine AWp.seq ?_
  refine AWp.reg1 {} hT (fun A hA => by
      have f0 := ar_len hA X n hn
      repeat (cbv; simp only [f0])
      cbv) (Nat.le_refl _) ?_
  try dsimp only [AExit.then, AExit.block]
  refine AWp.block (AWp.loopInv (ι := Int) (fun z => 0 ≤ z ∧ z ≤ n ∧ ∀ l ∈ x.take z.toNat, p l = false) (fun z => (n - z).toNat) [0, 1, 6, 7, 8]
    (fun z => { env := [(0, .d (.list 2 X)), (1, .func f [] bs), (6, .d (.list 2 X)), (7, AI n), (8, AI z)], heap := H, n := 19 }) 0 (by cbv) ⟨Int.le_refl _, by omega, by simp⟩ ?_)
  rintro z ⟨h0, h1, h2⟩
  by_cases hz : z < n
  · obtain ⟨L, hL⟩ : ∃ L, x[z.toNat]? = some L := ⟨_, List.getElem?_eq_getElem (by omega)⟩
    have hLm := hp L (List.mem_of_getElem? hL)
    have hXt : X[z.toNat]? = some (dFen L) := by rw [← hX, List.getElem?_map, hL]; rfl
    obtain ⟨b, hb⟩ : ∃ b, p L = b := ⟨_, rfl⟩
    rw [hb] at hLm
    
    obtain ⟨v, w⟩ := L
    unfold dFen at hXt hLm
    dsimp only at hXt hLm
    obtain ⟨z1, hz1⟩ : ∃ z1, z + 1 = z1 := ⟨_, rfl⟩
    repeat refine AWp.seq ?_
    refine AWp.reg1 {} hT (fun A hA => by
        have f0 := ar_lt hA hz
        repeat (cbv; simp only [f0])
        cbv) (Nat.le_refl _) ?_
    try dsimp only [AExit.then, AExit.block]
    repeat refine AWp.seq ?_
    refine AWp.cond (b := true) rfl (AWp.skip ?_)
    try dsimp only [AExit.then, AExit.block]
    repeat refine AWp.seq ?_
    refine AWp.block ?_
    repeat refine AWp.seq ?_
    refine AWp.reg1 {} hT (fun A hA => by cbv) (Nat.le_refl _) ?_
    try dsimp only [AExit.then, AExit.block]
    repeat refine AWp.seq ?_
    refine AWp.region ?_
    refine AOps.stepCallW hT (an := {}) (fun A hA => by
        have f0 := ar_get hA hXt
        have f1 := ar_le hA h0
        repeat (cbv; simp only [f0, f1])
        cbv) (Nat.le_refl _) (by first | rfl | exact hin) (by first | rfl | simp [inbL, AV.inb, hbs]) rfl (Nat.le_of_ble_eq_true rfl) rfl (by first | rfl | simp [AV.free, hbf]) (hLm) ?_
    refine AOps.done hT (an := {}) (fun A hA => by cbv) (Nat.le_refl _) ?_
    try dsimp only [AExit.then, AExit.block]
    cases b with
    | true =>
      repeat refine AWp.seq ?_
      refine AWp.cond (b := true) rfl ?_
      rw [if_pos rfl]
      repeat refine AWp.seq ?_
      refine AWp.reg1 {} hT (fun A hA => by cbv) (Nat.le_refl _) ?_
      try dsimp only [AExit.then, AExit.block]
      refine AWp.ret ⟨?_, rfl, hin, Nat.le_refl _, [], by simp⟩
      have : x.findIdx? p = some z.toNat := by
        rw [List.findIdx?_eq_some_iff_getElem]
        refine ⟨by omega, ?_, fun j hj => ?_⟩
        · rw [List.getElem?_eq_getElem (by omega)] at hL; injection hL with hL; rw [hL]; exact hb
        · have := h2 x[j] (by rw [List.mem_take_iff_getElem]; exact ⟨j, by omega, rfl⟩)
          simp [this]
      rw [this]
      show _ = some (AI (z.toNat : Int))
      rw [show (z.toNat : Int) = z by omega]
      rfl
    | false =>
      repeat refine AWp.seq ?_
      refine AWp.cond (b := false) rfl (AWp.skip ?_)
      try dsimp only [AExit.then, AExit.block]
      repeat refine AWp.seq ?_
      refine AWp.reg1 {} hT (fun A hA => by
          have f0 := ar_add hA z 1 z1 hz1 (by omega) (by omega)
          repeat (cbv; simp only [f0])
          cbv) (Nat.le_refl _) ?_
      try dsimp only [AExit.then, AExit.block]
      refine ⟨z1, ⟨by omega, by omega, ?_⟩, by omega, by cbv⟩
      intro l hl
      rw [show z1.toNat = z.toNat + 1 by omega, List.take_add_one, hL] at hl
      simp at hl
      rcases hl with hl | rfl
      · exact h2 l hl
      · exact hb
  · repeat refine AWp.seq ?_
    refine AWp.reg1 {} hT (fun A hA => by
        have f0 := ar_nlt hA hz
        repeat (cbv; simp only [f0])
        cbv) (Nat.le_refl _) ?_
    try dsimp only [AExit.then, AExit.block]
    repeat refine AWp.seq ?_
    refine AWp.cond (b := false) rfl (AWp.exit ?_)
    try dsimp only [AExit.then, AExit.block]
    rw [if_pos rfl]
    repeat refine AWp.seq ?_
    refine AWp.reg1 {} hT (fun A hA => by cbv) (Nat.le_refl _) ?_
    try dsimp only [AExit.then, AExit.block]
    refine AWp.ret ⟨?_, rfl, hin, Nat.le_refl _, [], by simp⟩
    have : x.findIdx? p = none := by
      rw [List.findIdx?_eq_none_iff]
      intro y hy
      exact h2 y (by rw [List.take_of_length_le (by omega)]; exact hy)
    rw [this]
    rfl

theorem contains119 (x : List (Fen)) (hx : x.length ≤ 9223372036854775807) (f : FuncId) (bs : List AV) (H : List Obj) (p : Fen → Bool) (hin : objsInb H.length H = true) (hbs : inbL H.length bs = true) (hbf : bs.all AV.free = true)
    (hp : ∀ l ∈ x, ACall P f (.d (dFen l) :: bs) H (AB (p l)) H) : ACall P 123 [.d (.list 2 (x.map dFen)), .func f [] bs] H (AB (x.any p)) H := by
  obtain ⟨r, hr, hc⟩ := index119 x hx f bs H p hin hbs hbf hp
  obtain ⟨b, hb⟩ : ∃ b, x.any p = b := ⟨_, rfl⟩
  rw [hb] at hr ⊢
  obtain ⟨X, hX⟩ : ∃ X, x.map dFen = X := ⟨_, rfl⟩
  rw [hX] at hc ⊢
  refine ACall.enter hT (fn := Try.f123) Try.func123 rfl (by decide) (by simp [Try.f123]) rfl rfl rfl hin (Nat.le_refl _) ?_
  repeat refine AWp.seq ?_
  refine AWp.reg1 {} hT (fun A hA => by cbv) (Nat.le_refl _) ?_
  try dsimp only [AExit.then, AExit.block]
  repeat refine AWp.seq ?_
  refine AWp.region ?_
  refine AOps.stepCallW hT (an := {}) (fun A hA => by cbv) (Nat.le_refl _) (by first | rfl | exact hin) (by first | rfl | simp [inbL, AV.inb, hbs]) rfl (Nat.le_of_ble_eq_true rfl) rfl (by first | rfl | simp [AV.free, hbf]) (hc) ?_
  have hrb : ∀ A : Ar, A = Ar.std → A.zle 0 r = b := fun A hA => by subst hA; exact hr
  refine AOps.done hT (an := {}) (fun A hA => by
      have f0 := hrb A hA
      repeat (cbv; simp only [f0])
      cbv) (Nat.le_refl _) ?_
  try dsimp only [AExit.then, AExit.block]
  refine AWp.ret ⟨rfl, rfl, hin, Nat.le_refl _, [], by simp⟩

theorem indexI (x : List (Int)) (hx : x.length ≤ 9223372036854775807) (f : FuncId) (bs : List AV) (H : List Obj) (p : Int → Bool) (hin : objsInb H.length H = true) (hbs : inbL H.length bs = true) (hbf : bs.all AV.free = true)
    (hp : ∀ l ∈ x, ACall P f (.d (I l) :: bs) H (AB (p l)) H) : ∃ r : Int, (decide (0 ≤ r) = x.any p) ∧ ACall P 132 [.d (.list 1 (x.map I)), .func f [] bs] H (AI r) H := by
  refine ⟨match x.findIdx? p with | some i => (i : Int) | none => -1, ?_, ?_⟩
  · cases h : x.findIdx? p with
    | none =>
      rw [List.findIdx?_eq_none_iff] at h
      have : x.any p = false := List.any_eq_false.2 (fun y hy => by rw [h y hy]; exact Bool.false_ne_true)
      rw [this]; rfl
    | some i =>
      obtain ⟨h1, h2, _⟩ := List.findIdx?_eq_some_iff_getElem.1 h
      have : x.any p = true := List.any_eq_true.2 ⟨_, List.getElem_mem h1, h2⟩
      rw [this]; simp
  obtain ⟨X, hX⟩ : ∃ X, x.map I = X := ⟨_, rfl⟩
  obtain ⟨n, hn⟩ : ∃ n : Int, (X.length : Int) = n := ⟨_, rfl⟩
  have hxl : (x.length : Int) = n := by rw [← hn, ← hX]; simp
  rw [hX]
  refine ACall.enter hT (fn := Try.f132) Try.func132 rfl (by decide) (by simp [Try.f132]) rfl rfl rfl hin (Nat.le_refl _) ?_
  repeat refine AWp.seq ?_
  refine AWp.reg1 {} hT (fun A hA => by cbv) (Nat.le_refl _) ?_
  try dsimp only [AExit.then, AExit.block]
  repeat refine AWp.seq ?_
  refine AWp.reg1 {} hT (fun A hA => by
      have f0 := ar_len hA X n hn
      repeat (cbv; simp only [f0])
      cbv) (Nat.le_refl _) ?_
  try dsimp only [AExit.then, AExit.block]
  refine AWp.block (AWp.loopInv (ι := Int) (fun z => 0 ≤ z ∧ z ≤ n ∧ ∀ l ∈ x.take z.toNat, p l = false) (fun z => (n - z).toNat) [0, 1, 6, 7, 8]
    (fun z => { env := [(0, .d (.list 1 X)), (1, .func f [] bs), (6, .d (.list 1 X)), (7, AI n), (8, AI z)], heap := H, n := 19 }) 0 (by cbv) ⟨Int.le_refl _, by omega, by simp⟩ ?_)
  rintro z ⟨h0, h1, h2⟩
  by_cases hz : z < n
  · obtain ⟨L, hL⟩ : ∃ L, x[z.toNat]? = some L := ⟨_, List.getElem?_eq_getElem (by omega)⟩
    have hLm := hp L (List.mem_of_getElem? hL)
    have hXt : X[z.toNat]? = some (I L) := by rw [← hX, List.getElem?_map, hL]; rfl
    obtain ⟨b, hb⟩ : ∃ b, p L = b := ⟨_, rfl⟩
    rw [hb] at hLm
    
    skip
    obtain ⟨z1, hz1⟩ : ∃ z1, z + 1 = z1 := ⟨_, rfl⟩
    repeat refine AWp.seq ?_
    refine AWp.reg1 {} hT (fun A hA => by
        have f0 := ar_lt hA hz
        repeat (cbv; simp only [f0])
        cbv) (Nat.le_refl _) ?_
    try dsimp only [AExit.then, AExit.block]
    repeat refine AWp.seq ?_
    refine AWp.cond (b := true) rfl (AWp.skip ?_)
    try dsimp only [AExit.then, AExit.block]
    repeat refine AWp.seq ?_
    refine AWp.block ?_
    repeat refine AWp.seq ?_
    refine AWp.reg1 {} hT (fun A hA => by cbv) (Nat.le_refl _) ?_
    try dsimp only [AExit.then, AExit.block]
    repeat refine AWp.seq ?_
    refine AWp.region ?_
    refine AOps.stepCallW hT (an := {}) (fun A hA => by
        have f0 := ar_get hA hXt
        have f1 := ar_le hA h0
        repeat (cbv; simp only [f0, f1])
        cbv) (Nat.le_refl _) (by first | rfl | exact hin) (by first | rfl | simp [inbL, AV.inb, hbs]) rfl (Nat.le_of_ble_eq_true rfl) rfl (by first | rfl | simp [AV.free, hbf]) (hLm) ?_
    refine AOps.done hT (an := {}) (fun A hA => by cbv) (Nat.le_refl _) ?_
    try dsimp only [AExit.then, AExit.block]
    cases b with
    | true =>
      repeat refine AWp.seq ?_
      refine AWp.cond (b := true) rfl ?_
      rw [if_pos rfl]
      repeat refine AWp.seq ?_
      refine AWp.reg1 {} hT (fun A hA => by cbv) (Nat.le_refl _) ?_
      try dsimp only [AExit.then, AExit.block]
      refine AWp.ret ⟨?_, rfl, hin, Nat.le_refl _, [], by simp⟩
      have : x.findIdx? p = some z.toNat := by
        rw [List.findIdx?_eq_some_iff_getElem]
        refine ⟨by omega, ?_, fun j hj => ?_⟩
        · rw [List.getElem?_eq_getElem (by omega)] at hL; injection hL with hL; rw [hL]; exact hb
        · have := h2 x[j] (by rw [List.mem_take_iff_getElem]; exact ⟨j, by omega, rfl⟩)
          simp [this]
      rw [this]
      show _ = some (AI (z.toNat : Int))
      rw [show (z.toNat : Int) = z by omega]
      rfl
    | false =>
      repeat refine AWp.seq ?_
      refine AWp.cond (b := false) rfl (AWp.skip ?_)
      try dsimp only [AExit.then, AExit.block]
      repeat refine AWp.seq ?_
      refine AWp.reg1 {} hT (fun A hA => by
          have f0 := ar_add hA z 1 z1 hz1 (by omega) (by omega)
          repeat (cbv; simp only [f0])
          cbv) (Nat.le_refl _) ?_
      try dsimp only [AExit.then, AExit.block]
      refine ⟨z1, ⟨by omega, by omega, ?_⟩, by omega, by cbv⟩
      intro l hl
      rw [show z1.toNat = z.toNat + 1 by omega, List.take_add_one, hL] at hl
      simp at hl
      rcases hl with hl | rfl
      · exact h2 l hl
      · exact hb
  · repeat refine AWp.seq ?_
    refine AWp.reg1 {} hT (fun A hA => by
        have f0 := ar_nlt hA hz
        repeat (cbv; simp only [f0])
        cbv) (Nat.le_refl _) ?_
    try dsimp only [AExit.then, AExit.block]
    repeat refine AWp.seq ?_
    refine AWp.cond (b := false) rfl (AWp.exit ?_)
    try dsimp only [AExit.then, AExit.block]
    rw [if_pos rfl]
    repeat refine AWp.seq ?_
    refine AWp.reg1 {} hT (fun A hA => by cbv) (Nat.le_refl _) ?_
    try dsimp only [AExit.then, AExit.block]
    refine AWp.ret ⟨?_, rfl, hin, Nat.le_refl _, [], by simp⟩
    have : x.findIdx? p = none := by
      rw [List.findIdx?_eq_none_iff]
      intro y hy
      exact h2 y (by rw [List.take_of_length_le (by omega)]; exact hy)
    rw [this]
    rfl

theorem containsI (x : List (Int)) (hx : x.length ≤ 9223372036854775807) (f : FuncId) (bs : List AV) (H : List Obj) (p : Int → Bool) (hin : objsInb H.length H = true) (hbs : inbL H.length bs = true) (hbf : bs.all AV.free = true)
    (hp : ∀ l ∈ x, ACall P f (.d (I l) :: bs) H (AB (p l)) H) : ACall P 102 [.d (.list 1 (x.map I)), .func f [] bs] H (AB (x.any p)) H := by
  obtain ⟨r, hr, hc⟩ := indexI x hx f bs H p hin hbs hbf hp
  obtain ⟨b, hb⟩ : ∃ b, x.any p = b := ⟨_, rfl⟩
  rw [hb] at hr ⊢
  obtain ⟨X, hX⟩ : ∃ X, x.map I = X := ⟨_, rfl⟩
  rw [hX] at hc ⊢
  refine ACall.enter hT (fn := Try.f102) Try.func102 rfl (by decide) (by simp [Try.f102]) rfl rfl rfl hin (Nat.le_refl _) ?_
  repeat refine AWp.seq ?_
  refine AWp.reg1 {} hT (fun A hA => by cbv) (Nat.le_refl _) ?_
  try dsimp only [AExit.then, AExit.block]
  repeat refine AWp.seq ?_
  refine AWp.region ?_
  refine AOps.stepCallW hT (an := {}) (fun A hA => by cbv) (Nat.le_refl _) (by first | rfl | exact hin) (by first | rfl | simp [inbL, AV.inb, hbs]) rfl (Nat.le_of_ble_eq_true rfl) rfl (by first | rfl | simp [AV.free, hbf]) (hc) ?_
  have hrb : ∀ A : Ar, A = Ar.std → A.zle 0 r = b := fun A hA => by subst hA; exact hr
  refine AOps.done hT (an := {}) (fun A hA => by
      have f0 := hrb A hA
      repeat (cbv; simp only [f0])
      cbv) (Nat.le_refl _) ?_
  try dsimp only [AExit.then, AExit.block]
  refine AWp.ret ⟨rfl, rfl, hin, Nat.le_refl _, [], by simp⟩
end Go.Am
