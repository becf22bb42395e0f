/- Own text: D1v. -/
import Derived.Test.YtalfdjihejohoaaD1u
import Derived.Test.YtalfdjihejohoaaD1l
set_option maxRecDepth 100000
set_option linter.unusedVariables false
set_option linter.unusedSimpArgs false
namespace Go.Am
open Go Go.Proofs

theorem DelayConflicts_ok (x : List (List Acc)) (t a u b : Int) (hx : Big x) (law1 : nConfR x = nConf x) (law2 : pairsR x = pairsL x) :
    ACall P 4 [.d (dX x), AI t, AI a, AI u, AI b] [] (AB true) [] := by
  have clo := long_ok x hx
  have caw := awake_ok
  cases hlo : long x with
  | true =>
    rw [hlo] at clo
    obtain ⟨X, hX⟩ : ∃ X, dX x = X := ⟨_, rfl⟩
    rw [hX] at clo ⊢
    refine ACall.enter hT (fn := Try.f4) Try.func4 rfl (by decide) (by simp [Try.f4]) rfl rfl rfl rfl (Nat.le_refl _) ?_
    repeat refine AWp.seq ?_
    refine AWp.reg1 {} hT (fun A hA => by cbv) (Nat.zero_le _) ?_
    try dsimp only [AExit.then, AExit.block]
    repeat refine AWp.seq ?_
    refine AWp.region ?_
    refine AOps.stepCall hT (an := {}) (fun A hA => by cbv) (Nat.zero_le _) rfl (.inr rfl) rfl rfl rfl (Nat.le_of_ble_eq_true rfl) rfl rfl (clo) ?_
    refine AOps.done hT (an := {}) (fun A hA => by cbv) (Nat.zero_le _) ?_
    try dsimp only [AExit.then, AExit.block]
    repeat refine AWp.seq ?_
    refine AWp.cond (b := true) rfl ?_
    rw [if_pos rfl]
    repeat refine AWp.seq ?_
    refine AWp.region ?_
    refine AOps.stepCall hT (an := {}) (fun A hA => by cbv) (Nat.zero_le _) rfl (.inr rfl) rfl rfl rfl (Nat.le_of_ble_eq_true rfl) rfl rfl (caw) ?_
    refine AOps.done hT (an := {}) (fun A hA => by cbv) (Nat.zero_le _) ?_
    try dsimp only [AExit.then, AExit.block]
    repeat refine AWp.seq ?_
    refine AWp.ret ⟨?_, rfl, rfl, Nat.zero_le _, _, rfl⟩
    rfl
  | false =>
    rw [hlo] at clo
    have c1 := Conflict_ok x t a u b hx (fun h => valid_small h)
    have c2 := ConflictR_ok x t a u b hx (fun h => valid_small h)
    have c3 := valid_ok x hx
    have c4 := validR_ok x hx
    have c5 := conflicts_ok x hx (fun h => valid_small h)
    have c6 := conflictsR_ok x hx (fun h => valid_small h)
    have c7 := Pairs_ok x hx (fun h => ⟨valid_small h, Nat.le_trans (stations_48 h) (by omega)⟩)
    have c8 := PairsR_ok x hx (fun h => valid_small h)
    rw [law1] at c6
    rw [law2] at c8
    obtain ⟨l, hl, hll⟩ : ∃ l : List Sta, (if valid x then (pairsL x).map dSta else []) = l.map dSta ∧ l.length ≤ 9223372036854775807 := by
      cases hv : valid x with
      | false => exact ⟨[], by simp, by simp⟩
      | true =>
        refine ⟨pairsL x, by simp, ?_⟩
        have := stations_48 hv
        have h2 := List.length_filter_le (isPair x) (stations x)
        unfold pairsL
        omega
    have c9 := sameStations_ok l l hll
    rw [← hl] at c9
    rw [decide_eq_true rfl] at c9
    obtain ⟨i1, e1, hce⟩ : ∃ i e, conflictT x t a u b = [AB i, AI e] := by
      unfold conflictT
      split
      · split <;> exact ⟨_, _, rfl⟩
      · exact ⟨_, _, rfl⟩
    obtain ⟨n1, e2, hne⟩ : ∃ n e, (if valid x then [AI (nConf x), AI 0] else [AI 0, AI 90]) = [AI n, AI e] := by
      split <;> exact ⟨_, _, rfl⟩
    rw [hce] at c1 c2
    rw [hne] at c5 c6
    obtain ⟨e3, he3⟩ : ∃ e : Int, (if valid x then 0 else 90) = e := ⟨_, rfl⟩
    rw [he3] at c7 c8
    obtain ⟨R, hR⟩ : ∃ R, (if valid x then (pairsL x).map dSta else []) = R := ⟨_, rfl⟩
    rw [hR] at c7 c8 c9
    obtain ⟨v, hv⟩ : ∃ v, valid x = v := ⟨_, rfl⟩
    rw [hv] at c3 c4
    obtain ⟨X, hX⟩ : ∃ X, dX x = X := ⟨_, rfl⟩
    rw [hX] at clo c1 c2 c3 c4 c5 c6 c7 c8 ⊢
    have hvv : (v == v) = true := by cases v <;> rfl
    have hii : (i1 == i1) = true := by cases i1 <;> rfl
    refine ACall.enter hT (fn := Try.f4) Try.func4 rfl (by decide) (by simp [Try.f4]) rfl rfl rfl rfl (Nat.le_refl _) ?_
    repeat refine AWp.seq ?_
    refine AWp.reg1 {} hT (fun A hA => by cbv) (Nat.zero_le _) ?_
    try dsimp only [AExit.then, AExit.block]
    repeat refine AWp.seq ?_
    refine AWp.region ?_
    refine AOps.stepCall hT (an := {}) (fun A hA => by cbv) (Nat.zero_le _) rfl (.inr rfl) rfl rfl rfl (Nat.le_of_ble_eq_true rfl) rfl rfl (clo) ?_
    refine AOps.done hT (an := {}) (fun A hA => by cbv) (Nat.zero_le _) ?_
    try dsimp only [AExit.then, AExit.block]
    repeat refine AWp.seq ?_
    refine AWp.cond (b := false) rfl (AWp.skip ?_)
    try dsimp only [AExit.then, AExit.block]
    repeat refine AWp.seq ?_
    refine AWp.region ?_
    refine AOps.stepCall hT (an := {}) (fun A hA => by cbv) (Nat.zero_le _) rfl (.inr rfl) rfl rfl rfl (Nat.le_of_ble_eq_true rfl) rfl rfl (c1) ?_
    refine AOps.done hT (an := {}) (fun A hA => by cbv) (Nat.zero_le _) ?_
    try dsimp only [AExit.then, AExit.block]
    repeat refine AWp.seq ?_
    refine AWp.region ?_
    refine AOps.stepCall hT (an := {}) (fun A hA => by cbv) (Nat.zero_le _) rfl (.inr rfl) rfl rfl rfl (Nat.le_of_ble_eq_true rfl) rfl rfl (c2) ?_
    refine AOps.done hT (an := {}) (fun A hA => by cbv) (Nat.zero_le _) ?_
    try dsimp only [AExit.then, AExit.block]
    repeat refine AWp.seq ?_
    refine AWp.region ?_
    refine AOps.stepCall hT (an := {}) (fun A hA => by cbv) (Nat.zero_le _) rfl (.inr rfl) rfl rfl rfl (Nat.le_of_ble_eq_true rfl) rfl rfl (c3) ?_
    refine AOps.stepCall hT (an := {}) (fun A hA => by cbv) (Nat.zero_le _) rfl (.inr rfl) rfl rfl rfl (Nat.le_of_ble_eq_true rfl) rfl rfl (c4) ?_
    refine AOps.done hT (an := {}) (fun A hA => by
        have f0 := ar_beq hA hvv
        have f1 := ar_beq hA hii
        have f2 := ar_eq hA (rfl : e1 = e1)
        repeat (cbv; simp only [f0, f1, f2])
        cbv) (Nat.zero_le _) ?_
    try dsimp only [AExit.then, AExit.block]
    repeat refine AWp.seq ?_
    refine AWp.cond (b := false) rfl (AWp.skip ?_)
    try dsimp only [AExit.then, AExit.block]
    repeat refine AWp.seq ?_
    refine AWp.region ?_
    refine AOps.stepCall hT (an := {}) (fun A hA => by cbv) (Nat.zero_le _) rfl (.inr rfl) rfl rfl rfl (Nat.le_of_ble_eq_true rfl) rfl rfl (c5) ?_
    refine AOps.done hT (an := {}) (fun A hA => by cbv) (Nat.zero_le _) ?_
    try dsimp only [AExit.then, AExit.block]
    repeat refine AWp.seq ?_
    refine AWp.region ?_
    refine AOps.stepCall hT (an := {}) (fun A hA => by cbv) (Nat.zero_le _) rfl (.inr rfl) rfl rfl rfl (Nat.le_of_ble_eq_true rfl) rfl rfl (c6) ?_
    refine AOps.done hT (an := {}) (fun A hA => by cbv) (Nat.zero_le _) ?_
    try dsimp only [AExit.then, AExit.block]
    repeat refine AWp.seq ?_
    refine AWp.region ?_
    refine AOps.stepCall hT (an := {}) (fun A hA => by cbv) (Nat.zero_le _) rfl (.inr rfl) rfl rfl rfl (Nat.le_of_ble_eq_true rfl) rfl rfl (c7) ?_
    refine AOps.done hT (an := {}) (fun A hA => by cbv) (Nat.zero_le _) ?_
    try dsimp only [AExit.then, AExit.block]
    repeat refine AWp.seq ?_
    refine AWp.region ?_
    refine AOps.stepCall hT (an := {}) (fun A hA => by cbv) (Nat.zero_le _) rfl (.inr rfl) rfl rfl rfl (Nat.le_of_ble_eq_true rfl) rfl rfl (c8) ?_
    refine AOps.done hT (an := {}) (fun A hA => by cbv) (Nat.zero_le _) ?_
    try dsimp only [AExit.then, AExit.block]
    repeat refine AWp.seq ?_
    refine AWp.region ?_
    refine AOps.stepCall hT (an := {}) (fun A hA => by
        have f0 := ar_eq hA (rfl : n1 = n1)
        have f1 := ar_eq hA (rfl : e2 = e2)
        repeat (cbv; simp only [f0, f1])
        cbv) (Nat.zero_le _) rfl (.inr rfl) rfl rfl rfl (Nat.le_of_ble_eq_true rfl) rfl rfl (c9) ?_
    refine AOps.stepCall hT (an := {}) (fun A hA => by
        have f0 := ar_eq hA (rfl : e3 = e3)
        repeat (cbv; simp only [f0])
        cbv) (Nat.zero_le _) rfl (.inr rfl) rfl rfl rfl (Nat.le_of_ble_eq_true rfl) rfl rfl (caw) ?_
    refine AOps.done hT (an := {}) (fun A hA => by cbv) (Nat.zero_le _) ?_
    try dsimp only [AExit.then, AExit.block]
    repeat refine AWp.seq ?_
    refine AWp.ret ⟨?_, rfl, rfl, Nat.zero_le _, _, rfl⟩
    rfl

/-! ### The laws -/
theorem filter_range_le (p : Nat → Bool) (a : Nat) : ∀ n, (∀ b, p b = true → a ≤ b) → (List.range n).filter (fun b => decide (a ≤ b) && p b) = (List.range n).filter p := by
  intro n h
  apply List.filter_congr
  intro b _
  cases hp : p b with
  | false => simp
  | true => simp [h b hp]

theorem pairsR_eq (x : List (List Acc)) : pairsR x = pairsL x := by
  unfold pairsR pairsL stationsR stations stRT staT
  rw [List.filter_flatMap, List.filter_flatMap]
  congr 1
  funext t
  unfold stRA staA
  rw [List.filter_flatMap, List.filter_flatMap]
  congr 1
  funext a
  unfold stRB staB
  rw [List.filter_map, List.filter_map, List.filter_filter, List.filter_filter]
  congr 1
  apply List.filter_congr
  intro b _
  simp only [Function.comp]
  cases hp : isPair x ((t : Int), (a : Int), (b : Int)) with
  | false =>
    by_cases e : a = b
    · subst e; simp
    · simp [e]
  | true =>
    have : (a : Int) < b := by
      unfold isPair at hp
      simp only [Bool.and_eq_true, decide_eq_true_eq] at hp
      exact hp.1.1.1
    have h1 : decide (a ≤ b) = true := by simp; omega
    have h2 : decide ((a : Int) < b) = true := by simp; omega
    simp [h1]; omega
end Go.Am
