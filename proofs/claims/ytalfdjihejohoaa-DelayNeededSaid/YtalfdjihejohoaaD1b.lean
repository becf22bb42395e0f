/- Own text: D1b. -/
import Derived.Test.YtalfdjihejohoaaD1a
set_option maxRecDepth 100000
set_option linter.unusedVariables false
set_option linter.unusedSimpArgs false
namespace Go.Am
open Go Go.Proofs

def acc (x : List (List Acc)) (t a : Int) : Acc := ((x[t.toNat]?).bind (·[a.toNat]?)).getD (0, false)
theorem there_get {x : List (List Acc)} {t a : Int} (h : there x t a = true) : 0 ≤ t ∧ 0 ≤ a ∧ ∃ L, x[t.toNat]? = some L ∧ L[a.toNat]? = some (acc x t a) := by
  unfold there at h
  simp only [Bool.and_eq_true, decide_eq_true_eq] at h
  obtain ⟨h0, h⟩ := h
  split at h
  · rename_i L hL
    simp only [Bool.and_eq_true, decide_eq_true_eq] at h
    refine ⟨h0, h.1, L, hL, ?_⟩
    unfold acc
    rw [hL]
    simp only [Option.bind_some]
    rw [List.getElem?_eq_getElem (by omega)]
    rfl
  · cases h
theorem at_ok' (x : List (List Acc)) (t a : Int) (h : there x t a = true) : ACall P 113 [.d (dX x), .d (.agg [I t, I a])] [] (.d (.agg [I (acc x t a).1, .bool (acc x t a).2])) [] := by
  obtain ⟨h0, h1, L, h2, h3⟩ := there_get h
  exact at_ok _ (L.map dAcc) t a _ _ h0 (by rw [List.getElem?_map, h2]; rfl) h1 (by rw [List.getElem?_map, h3]; rfl)

def conflict (x : List (List Acc)) (t a u b : Int) : Bool := decide (t ≠ u) && decide ((acc x t a).1 = (acc x u b).1) && ((acc x t a).2 || (acc x u b).2)
theorem conflict_ok (x : List (List Acc)) (t a u b : Int) (h : there x t a = true) (h' : there x u b = true) :
    ACall P 63 [.d (dX x), .d (.agg [I t, I a]), .d (.agg [I u, I b])] [] (AB (conflict x t a u b)) [] := by
  have c1 := at_ok' x t a h
  have c2 := at_ok' x u b h'
  unfold conflict
  obtain ⟨X, hX⟩ : ∃ X, dX x = X := ⟨_, rfl⟩
  rw [hX] at c1 c2 ⊢
  obtain ⟨v, hv⟩ : ∃ v, (acc x t a).1 = v := ⟨_, rfl⟩
  obtain ⟨v', hv'⟩ : ∃ v, (acc x u b).1 = v := ⟨_, rfl⟩
  obtain ⟨p, hp⟩ : ∃ v, (acc x t a).2 = v := ⟨_, rfl⟩
  obtain ⟨p', hp'⟩ : ∃ v, (acc x u b).2 = v := ⟨_, rfl⟩
  rw [hv, hp] at c1 ⊢
  rw [hv', hp'] at c2 ⊢
  refine ACall.enter hT (fn := Try.f63) Try.func63 rfl (by decide) (by simp [Try.f63]) rfl rfl rfl rfl (Nat.le_refl _) ?_
  refine AWp.reg {} hT (fun A hA => by cbv) (Nat.zero_le _) ?_
  refine AWp.seq (AWp.regionDraw rfl (Nat.zero_le _) (DOps.stepCall hT (an := {}) rfl (fun A hA => by cbv) rfl rfl (Nat.le_of_ble_eq_true rfl) rfl rfl c1 ?_))
  refine DOps.stepCall hT (an := {}) rfl (fun A hA => by cbv) rfl rfl (Nat.le_of_ble_eq_true rfl) rfl rfl c2 ?_
  refine DOps.done hT (an := {}) rfl (fun A hA => by cbv) (by kernel_rfl) ?_
  by_cases e1 : t = u
  · refine AWp.reg {} hT (fun A hA => by
      have f1 := ar_eq hA e1
      repeat (cbv; simp only [f1])
      cbv) (Nat.zero_le _) ?_
    refine AWp.ret ⟨?_, rfl, rfl, Nat.zero_le _, [], rfl⟩
    simp [e1]
    rfl
  · by_cases e2 : v = v'
    · cases p with
      | true =>
        refine AWp.reg {} hT (fun A hA => by
          have f1 := ar_ne hA e1
          have f2 := ar_eq hA e2
          repeat (cbv; simp only [f1, f2])
          cbv) (Nat.zero_le _) ?_
        refine AWp.ret ⟨?_, rfl, rfl, Nat.zero_le _, [], rfl⟩
        simp [e1, e2]
        rfl
      | false =>
        cases p' <;> (
        refine AWp.reg {} hT (fun A hA => by
          have f1 := ar_ne hA e1
          have f2 := ar_eq hA e2
          repeat (cbv; simp only [f1, f2])
          cbv) (Nat.zero_le _) ?_
        refine AWp.ret ⟨?_, rfl, rfl, Nat.zero_le _, [], rfl⟩
        simp [e1, e2]
        rfl)
    · refine AWp.reg {} hT (fun A hA => by
        have f1 := ar_ne hA e1
        have f2 := ar_ne hA e2
        repeat (cbv; simp only [f1, f2])
        cbv) (Nat.zero_le _) ?_
      refine AWp.ret ⟨?_, rfl, rfl, Nat.zero_le _, [], rfl⟩
      simp [e1, e2]
      rfl

abbrev Sta := Int × Int × Int
def dSta (s : Sta) : D := .agg [I s.1, I s.2.1, I s.2.2]
def isPair (x : List (List Acc)) (s : Sta) : Bool := decide (s.2.1 < s.2.2) && there x s.1 s.2.1 && there x s.1 s.2.2 && decide ((acc x s.1 s.2.1).1 ≠ (acc x s.1 s.2.2).1)
theorem isPair_ok (x : List (List Acc)) (s : Sta) (hx : Small x) : ACall P 84 [.d (dX x), .d (dSta s)] [] (AB (isPair x s)) [] := by
  obtain ⟨t, a, b⟩ := s
  have ci := in_ok t a b
  have co := out_ok t a b
  have t1 := there_ok x t a hx
  have t2 := there_ok x t b hx
  have a1 := at_ok' x t a
  have a2 := at_ok' x t b
  show ACall P 84 [.d (dX x), .d (.agg [I t, I a, I b])] [] _ []
  unfold isPair
  simp only
  obtain ⟨X, hX⟩ : ∃ X, dX x = X := ⟨_, rfl⟩
  rw [hX] at t1 t2 a1 a2 ⊢
  obtain ⟨v, hv⟩ : ∃ v, (acc x t a).1 = v := ⟨_, rfl⟩
  obtain ⟨v', hv'⟩ : ∃ v, (acc x t b).1 = v := ⟨_, rfl⟩
  obtain ⟨p, hp⟩ : ∃ v, (acc x t a).2 = v := ⟨_, rfl⟩
  obtain ⟨p', hp'⟩ : ∃ v, (acc x t b).2 = v := ⟨_, rfl⟩
  rw [hv, hp] at a1
  rw [hv', hp'] at a2
  rw [hv, hv']
  refine ACall.enter hT (fn := Try.f84) Try.func84 rfl (by decide) (by simp [Try.f84]) rfl rfl rfl rfl (Nat.le_refl _) ?_
  refine AWp.reg {} hT (fun A hA => by cbv) (Nat.zero_le _) ?_
  by_cases e1 : a < b
  · refine AWp.seq (AWp.regionDraw rfl (Nat.zero_le _) (DOps.stepCall hT (an := {}) rfl (fun A hA => by
        have f1 := ar_lt hA e1
        repeat (cbv; simp only [f1])
        cbv) rfl rfl (Nat.le_of_ble_eq_true rfl) rfl rfl ci ?_))
    refine DOps.stepCall hT (an := {}) rfl (fun A hA => by cbv) rfl rfl (Nat.le_of_ble_eq_true rfl) rfl rfl t1 ?_
    cases h1 : there x t a with
    | false =>
      refine DOps.done hT (an := {}) rfl (fun A hA => by cbv) (by kernel_rfl) ?_
      refine AWp.ret ⟨?_, rfl, rfl, Nat.zero_le _, [], rfl⟩
      simp; rfl
    | true =>
      refine DOps.stepCall hT (an := {}) rfl (fun A hA => by cbv) rfl rfl (Nat.le_of_ble_eq_true rfl) rfl rfl co ?_
      refine DOps.stepCall hT (an := {}) rfl (fun A hA => by cbv) rfl rfl (Nat.le_of_ble_eq_true rfl) rfl rfl t2 ?_
      cases h2 : there x t b with
      | false =>
        refine DOps.done hT (an := {}) rfl (fun A hA => by cbv) (by kernel_rfl) ?_
        refine AWp.ret ⟨?_, rfl, rfl, Nat.zero_le _, [], rfl⟩
        simp; rfl
      | true =>
        refine DOps.stepCall hT (an := {}) rfl (fun A hA => by cbv) rfl rfl (Nat.le_of_ble_eq_true rfl) rfl rfl ci ?_
        refine DOps.stepCall hT (an := {}) rfl (fun A hA => by cbv) rfl rfl (Nat.le_of_ble_eq_true rfl) rfl rfl (a1 h1) ?_
        refine DOps.stepCall hT (an := {}) rfl (fun A hA => by cbv) rfl rfl (Nat.le_of_ble_eq_true rfl) rfl rfl co ?_
        refine DOps.stepCall hT (an := {}) rfl (fun A hA => by cbv) rfl rfl (Nat.le_of_ble_eq_true rfl) rfl rfl (a2 h2) ?_
        by_cases e2 : v = v'
        · refine DOps.done hT (an := {}) rfl (fun A hA => by
            have f1 := ar_eq hA e2
            repeat (cbv; simp only [f1])
            cbv) (by kernel_rfl) ?_
          refine AWp.ret ⟨?_, rfl, rfl, Nat.zero_le _, [], rfl⟩
          simp [e2]; rfl
        · refine DOps.done hT (an := {}) rfl (fun A hA => by
            have f1 := ar_ne hA e2
            repeat (cbv; simp only [f1])
            cbv) (by kernel_rfl) ?_
          refine AWp.ret ⟨?_, rfl, rfl, Nat.zero_le _, [], rfl⟩
          simp [e1, e2]; rfl
  · refine AWp.seq (AWp.regionDraw rfl (Nat.zero_le _) (DOps.done hT (an := {}) rfl (fun A hA => by
        have f1 := ar_nlt hA e1
        repeat (cbv; simp only [f1])
        cbv) (by kernel_rfl) ?_))
    refine AWp.ret ⟨?_, rfl, rfl, Nat.zero_le _, [], rfl⟩
    simp [e1]; rfl
end Go.Am
