/- Own text: D1k. -/
import Derived.Test.YtalfdjihejohoaaD1j
set_option maxRecDepth 100000
set_option linter.unusedVariables false
set_option linter.unusedSimpArgs false
namespace Go.Am
open Go Go.Proofs

/-- Counting. -/
def count (n : Int) (_ : List Sta) : Int × Bool := (IntKind.i64.wrap (n + 1), true)
theorem runY_count : ∀ (l : List (List Sta)) (n : Int), 0 ≤ n → n + l.length < 9223372036854775808 → runY count n l = (n + l.length, true)
  | [], n, _, _ => by simp [runY]
  | c :: r, n, h, h1 => by
    simp only [List.length_cons] at h1
    simp only [runY, count, if_true]
    rw [wrapI _ (by omega) (by omega), runY_count r (n + 1) (by omega) (by omega)]
    simp only [List.length_cons]
    congr 1
    omega
def circBound : Nat → Nat
  | 0 => 1
  | k + 1 => 1 + 48 * circBound k
theorem circFrom_length (x : List (List Acc)) (all : List Sta) (hall : all.length ≤ 48) : ∀ (k : Nat) (l : List Sta), (circFrom x all k l).length ≤ circBound k := by
  intro k
  induction k with
  | zero => intro l; unfold circFrom circHere; split <;> simp [circBound]
  | succ k ih =>
    intro l
    unfold circFrom
    have h1 : (circHere x l).length ≤ 1 := by unfold circHere; split <;> simp
    have h2 : ∀ (q : List Sta), (q.flatMap fun st => if nextOk x l st then circFrom x all k (l ++ [st]) else []).length ≤ q.length * circBound k := by
      intro q
      induction q with
      | nil => simp
      | cons a r ih2 =>
        simp only [List.flatMap_cons, List.length_append, List.length_cons, Nat.succ_mul]
        have : (if nextOk x l a then circFrom x all k (l ++ [a]) else []).length ≤ circBound k := by
          split
          · exact ih _
          · simp
        omega
    have h3 := h2 all
    have h4 := Nat.mul_le_mul_right (circBound k) hall
    rw [List.length_append]
    unfold circBound
    omega
theorem valid_sizes {x : List (List Acc)} (h : valid x = true) : 1 ≤ x.length ∧ x.length ≤ 3 ∧ ∀ l ∈ x, l.length ≤ 4 ∧ ∀ a ∈ l, 0 ≤ a.1 ∧ a.1 ≤ 2 := by
  unfold valid at h
  simp only [Bool.and_eq_true, decide_eq_true_eq, Bool.not_eq_true'] at h
  obtain ⟨⟨h1, h2⟩, h3⟩ := h
  refine ⟨by omega, by omega, fun l hl => ?_⟩
  have := List.any_eq_false.1 h3 l hl
  unfold badL at this
  simp only [Bool.or_eq_true, decide_eq_true_eq, not_or] at this
  refine ⟨by omega, fun a ha => ?_⟩
  have h5 : ¬ badAcc a = true := fun h => this.2 (any_mem_true ha h)
  unfold badAcc at h5
  simp at h5
  exact h5
theorem valid_small {x : List (List Acc)} (h : valid x = true) : Small x := by
  obtain ⟨h1, h2, h3⟩ := valid_sizes h
  exact ⟨by omega, fun l hl => by have := (h3 l hl).1; omega⟩
theorem stations_48 {x : List (List Acc)} (h : valid x = true) : (stations x).length ≤ 48 := by
  obtain ⟨h1, h2, h3⟩ := valid_sizes h
  have h4 : ∀ t a n, (staB x t a n).length ≤ n := fun t a n => by
    unfold staB
    rw [List.length_map]
    exact Nat.le_trans (List.length_filter_le _ _) (by simp)
  have h5 : ∀ t, t < x.length → (staA x t (x.getD t []).length (x.getD t []).length).length ≤ 16 := fun t ht => by
    have hl := (h3 _ (List.getElem_mem ht)).1
    have := flatMap_len (fun a => staB x t a (x.getD t []).length) (x.getD t []).length (List.range (x.getD t []).length) (fun a _ => h4 _ _ _)
    rw [List.getD_eq_getElem?_getD, List.getElem?_eq_getElem ht] at this ⊢
    simp only [Option.getD_some, List.length_range] at this ⊢
    exact Nat.le_trans this (Nat.mul_le_mul hl hl)
  have := flatMap_len (fun t => staA x t (x.getD t []).length (x.getD t []).length) 16 (List.range x.length) (fun t ht => h5 t (List.mem_range.1 ht))
  rw [List.length_range] at this
  exact Nat.le_trans this (Nat.mul_le_mul_right _ h2)
theorem count_circles {x : List (List Acc)} (h : valid x = true) : runY count 0 (circles x) = (((circles x).length : Int), true) := by
  have h1 : (circles x).length ≤ circBound 3 := circFrom_length x _ (stations_48 h) 3 []
  have h2 : circBound 3 = 112945 := by decide
  rw [runY_count _ _ (by omega) (by omega)]
  simp
def nCirc (x : List (List Acc)) : Nat := (circles x).length

theorem Circles_ok (x : List (List Acc)) (hx : Big x) : ACall P 16 [.d (dX x)] [] (.tuple (if valid x then [AI (nCirc x), AI 0] else [AI 0, AI 90])) [] := by
  have cv := valid_ok x hx
  cases hv : valid x with
  | false =>
    rw [hv] at cv
    obtain ⟨X, hX⟩ : ∃ X, dX x = X := ⟨_, rfl⟩
    rw [hX] at cv ⊢
    refine ACall.enter hT (fn := Try.f16) Try.func16 rfl (by decide) (by simp [Try.f16]) rfl rfl rfl rfl (Nat.le_refl _) ?_
    repeat refine AWp.seq ?_
    refine AWp.reg1 {} hT (fun A hA => by cbv) (Nat.zero_le _) ?_
    try dsimp only [AExit.then, AExit.block]
    repeat refine AWp.seq ?_
    refine AWp.region ?_
    refine AOps.stepCall hT (an := {}) (fun A hA => by cbv) (Nat.zero_le _) rfl (.inr rfl) rfl rfl rfl (Nat.le_of_ble_eq_true rfl) rfl rfl (cv) ?_
    refine AOps.done hT (an := {}) (fun A hA => by cbv) (Nat.zero_le _) ?_
    try dsimp only [AExit.then, AExit.block]
    repeat refine AWp.seq ?_
    refine AWp.cond (b := true) rfl ?_
    rw [if_pos rfl]
    repeat refine AWp.seq ?_
    refine AWp.reg1 {} hT (fun A hA => by cbv) (Nat.zero_le _) ?_
    try dsimp only [AExit.then, AExit.block]
    repeat refine AWp.seq ?_
    refine AWp.ret ⟨?_, rfl, rfl, Nat.zero_le _, _, rfl⟩
    rfl
  | true =>
    have hsm := valid_small hv
    have hcnt := count_circles hv
    unfold nCirc
    rw [hv] at cv
    have ccs := fun (A B : Int → Obj) hAB hy => circles_ok A B hAB count x hsm hy 0
    rw [if_pos rfl]
    obtain ⟨X, hX⟩ : ∃ X, dX x = X := ⟨_, rfl⟩
    obtain ⟨N, hN⟩ : ∃ r : Int, ((circles x).length : Int) = r := ⟨_, rfl⟩
    rw [hN] at hcnt
    rw [hX] at cv ⊢
    simp only [hX, hcnt] at ccs
    rw [hN]
    refine ACall.enterT hT (fn := Try.f16) Try.func16 rfl (by decide) (by simp [Try.f16]) rfl rfl rfl rfl (Nat.le_refl _) ?_
    refine AWpT.seq (AWpT.of ?_)
    repeat refine AWp.seq ?_
    refine AWp.reg1 {} hT (fun A hA => by cbv) (Nat.zero_le _) ?_
    try dsimp only [AExit.then, AExit.block]
    refine AWpT.seq (AWpT.of ?_)
    repeat refine AWp.seq ?_
    refine AWp.region ?_
    refine AOps.stepCall hT (an := {}) (fun A hA => by cbv) (Nat.zero_le _) rfl (.inr rfl) rfl rfl rfl (Nat.le_of_ble_eq_true rfl) rfl rfl (cv) ?_
    refine AOps.done hT (an := {}) (fun A hA => by cbv) (Nat.zero_le _) ?_
    try dsimp only [AExit.then, AExit.block]
    repeat refine AWp.seq ?_
    refine AWp.cond (b := false) rfl (AWp.skip ?_)
    try dsimp only [AExit.then, AExit.block]
    refine AWpT.seq (AWpT.of ?_)
    repeat refine AWp.seq ?_
    refine AWp.reg1 {esc := [4]} hT (fun A hA => by cbv) (Nat.zero_le _) ?_
    try dsimp only [AExit.then, AExit.block]
    refine AWpT.seq (AWpT.seq (AWpT.of ?_))
    repeat refine AWp.seq ?_
    refine AWp.reg1 {} hT (fun A hA => by cbv) (Nat.zero_le _) ?_
    try dsimp only [AExit.then, AExit.block]
    refine AWpT.block ?_
    refine AWpT.rangeFunc (st := .ready) (pend := none) [4] rfl (Nat.zero_le _) ?_ ?_ ?_ (ccs (fun n => .cells [AI n]) (fun _ => .loop _) ?_ ?_) ?_ ?_ ?_
    · rfl
    · rfl
    · rfl
    · intro s k hk
      refine ⟨rfl, ?_⟩
      show (decide (0 < k) && true) = true
      simp; omega
    · intro n l hl
      obtain ⟨L, hL⟩ : ∃ L, l.map dSta = L := ⟨_, rfl⟩
      rw [hL]
      obtain ⟨n1, hn1⟩ : ∃ n1, IntKind.i64.wrap (n + 1) = n1 := ⟨_, rfl⟩
      unfold count
      rw [hn1]
      have hadd : ∀ A : Ar, A = Ar.std → A.wrp .i64 (A.zadd n 1) = n1 := fun A hA => by subst hA; exact hn1
      refine YCall.mk (y := 1) rfl rfl rfl rfl rfl rfl (Nat.le_refl _) ?_
      refine AWp.skip ⟨rfl, rfl, ?_⟩
      refine AWp.block ?_
      repeat refine AWp.seq ?_
      refine AWp.reg1 {} hT (fun A hA => by
          have f0 := hadd A hA
          repeat (cbv; simp only [f0])
          cbv) (Nat.le_of_ble_eq_true rfl) ?_
      try dsimp only [AExit.then, AExit.block]
      exact ⟨rfl, rfl, [], rfl⟩
    · simp
    · rfl
    · dsimp only [AWpT.behind, AExit.then, AExit.block]
      refine AWpT.of ?_
      repeat refine AWp.seq ?_
      refine AWp.reg1 {} hT (fun A hA => by cbv) (Nat.le_of_ble_eq_true rfl) ?_
      try dsimp only [AExit.then, AExit.block]
      repeat refine AWp.seq ?_
      refine AWp.ret ⟨?_, rfl, rfl, Nat.le_of_ble_eq_true rfl, _, rfl⟩
      rfl
end Go.Am
