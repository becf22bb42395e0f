/- Own text: D1q. -/
import Derived.Test.YtalfdjihejohoaaD1p
set_option maxRecDepth 100000
set_option linter.unusedVariables false
set_option linter.unusedSimpArgs false
namespace Go.Am
open Go Go.Proofs

def sumN (f : Nat → Nat) : Nat → Nat
  | 0 => 0
  | n + 1 => sumN f n + f n
theorem sumN_le (f : Nat → Nat) (B : Nat) : ∀ n, (∀ i, i < n → f i ≤ B) → sumN f n ≤ n * B
  | 0, _ => by simp [sumN]
  | n + 1, h => by
    have h1 := sumN_le f B n (fun i hi => h i (by omega))
    have h2 := h n (by omega)
    simp only [sumN]
    rw [Nat.succ_mul]
    omega

theorem isAccess_ok (x : List (List Acc)) (t a : Int) (hx : Small x) : ACall P 65 [.d (dX x), AI t, AI a] [] (AB (there x t a)) [] := by
  unfold dX
  obtain ⟨X, hX⟩ : ∃ X, x.map dAccs = X := ⟨_, rfl⟩
  obtain ⟨n, hn⟩ : ∃ n : Int, (X.length : Int) = n := ⟨_, rfl⟩
  have hxl : (x.length : Int) = n := by rw [← hn, ← hX]; simp
  rw [hX]
  have hs := hx.1
  refine ACall.enter hT (fn := Try.f65) Try.func65 rfl (by decide) (by simp [Try.f65]) rfl rfl rfl rfl (Nat.le_refl _) ?_
  repeat refine AWp.seq ?_
  refine AWp.reg1 {} hT (fun A hA => by cbv) (Nat.zero_le _) ?_
  try dsimp only [AExit.then, AExit.block]
  by_cases h0 : 0 ≤ t
  · by_cases h1 : t < n
    · obtain ⟨L, hL⟩ : ∃ L, x[t.toNat]? = some L := ⟨_, List.getElem?_eq_getElem (by omega)⟩
      obtain ⟨L', hL'⟩ : ∃ L', L.map dAcc = L' := ⟨_, rfl⟩
      obtain ⟨k, hk⟩ : ∃ n : Int, (L'.length : Int) = n := ⟨_, rfl⟩
      have hkL : (L.length : Int) = k := by rw [← hk, ← hL']; simp
      have hXt : X[t.toNat]? = some (.list 2 L') := by rw [← hX, List.getElem?_map, hL, ← hL']; rfl
      have hth : there x t a = (decide (0 ≤ a) && decide (a < k)) := by
        unfold there; rw [hL]; simp [h0, hkL]
      rw [hth]
      by_cases g0 : 0 ≤ a
      · by_cases g1 : a < k
        · repeat refine AWp.seq ?_
          refine AWp.reg1 {} hT (fun A hA => by
              have f0 := ar_len hA X n hn
              have f1 := ar_le hA h0
              have f2 := ar_lt hA h1
              have f3 := ar_le hA g0
              have f4 := ar_get hA hXt
              have f5 := ar_len hA L' k hk
              have f6 := ar_lt hA g1
              repeat (cbv; simp only [f0, f1, f2, f3, f4, f5, f6])
              cbv) (Nat.zero_le _) ?_
          try dsimp only [AExit.then, AExit.block]
          repeat refine AWp.seq ?_
          refine AWp.ret ⟨?_, rfl, rfl, Nat.zero_le _, _, rfl⟩
          simp [g0, g1]; rfl
        · repeat refine AWp.seq ?_
          refine AWp.reg1 {} hT (fun A hA => by
              have f0 := ar_len hA X n hn
              have f1 := ar_le hA h0
              have f2 := ar_lt hA h1
              have f3 := ar_le hA g0
              have f4 := ar_get hA hXt
              have f5 := ar_len hA L' k hk
              have f6 := ar_nlt hA g1
              repeat (cbv; simp only [f0, f1, f2, f3, f4, f5, f6])
              cbv) (Nat.zero_le _) ?_
          try dsimp only [AExit.then, AExit.block]
          repeat refine AWp.seq ?_
          refine AWp.ret ⟨?_, rfl, rfl, Nat.zero_le _, _, rfl⟩
          simp [g0, g1]; rfl
      · repeat refine AWp.seq ?_
        refine AWp.reg1 {} hT (fun A hA => by
            have f0 := ar_len hA X n hn
            have f1 := ar_le hA h0
            have f2 := ar_lt hA h1
            have f3 := ar_nle hA g0
            repeat (cbv; simp only [f0, f1, f2, f3])
            cbv) (Nat.zero_le _) ?_
        try dsimp only [AExit.then, AExit.block]
        repeat refine AWp.seq ?_
        refine AWp.ret ⟨?_, rfl, rfl, Nat.zero_le _, _, rfl⟩
        simp [g0]; rfl
    · have hth : there x t a = false := by
        unfold there; rw [List.getElem?_eq_none (by omega)]; simp
      rw [hth]
      repeat refine AWp.seq ?_
      refine AWp.reg1 {} hT (fun A hA => by
          have f0 := ar_len hA X n hn
          have f1 := ar_le hA h0
          have f2 := ar_nlt hA h1
          repeat (cbv; simp only [f0, f1, f2])
          cbv) (Nat.zero_le _) ?_
      try dsimp only [AExit.then, AExit.block]
      repeat refine AWp.seq ?_
      refine AWp.ret ⟨?_, rfl, rfl, Nat.zero_le _, _, rfl⟩
      rfl
  · have hth : there x t a = false := by
      unfold there; simp [h0]
    rw [hth]
    repeat refine AWp.seq ?_
    refine AWp.reg1 {} hT (fun A hA => by
        have f0 := ar_nle hA h0
        repeat (cbv; simp only [f0])
        cbv) (Nat.zero_le _) ?_
    try dsimp only [AExit.then, AExit.block]
    repeat refine AWp.seq ?_
    refine AWp.ret ⟨?_, rfl, rfl, Nat.zero_le _, _, rfl⟩
    rfl

theorem there_at {x : List (List Acc)} {t a : Int} (h : there x t a = true) : 0 ≤ t ∧ 0 ≤ a ∧ ∃ L', (x.map dAccs)[t.toNat]? = some (.list 2 L') ∧ L'[a.toNat]? = some (.agg [I (acc x t a).1, .bool (acc x t a).2]) := by
  obtain ⟨h0, h1, L, h2, h3⟩ := there_get h
  exact ⟨h0, h1, L.map dAcc, by rw [List.getElem?_map, h2]; rfl, by rw [List.getElem?_map, h3]; rfl⟩

theorem conflictR_ok (x : List (List Acc)) (t a u b : Int) (h : there x t a = true) (h' : there x u b = true) :
    ACall P 66 [.d (dX x), AI t, AI a, AI u, AI b] [] (AB (conflict x t a u b)) [] := by
  obtain ⟨h0, h1, L, h2, h3⟩ := there_at h
  obtain ⟨g0, g1, M, g2, g3⟩ := there_at h'
  unfold conflict dX
  obtain ⟨X, hX⟩ : ∃ X, x.map dAccs = X := ⟨_, rfl⟩
  rw [hX] at h2 g2 ⊢
  obtain ⟨v, hv⟩ : ∃ v, (acc x t a).1 = v := ⟨_, rfl⟩
  obtain ⟨v', hv'⟩ : ∃ v, (acc x u b).1 = v := ⟨_, rfl⟩
  obtain ⟨p, hp⟩ : ∃ v, (acc x t a).2 = v := ⟨_, rfl⟩
  obtain ⟨p', hp'⟩ : ∃ v, (acc x u b).2 = v := ⟨_, rfl⟩
  rw [hv, hp] at h3 ⊢
  rw [hv', hp'] at g3 ⊢
  refine ACall.enter hT (fn := Try.f66) Try.func66 rfl (by decide) (by simp [Try.f66]) rfl rfl rfl rfl (Nat.le_refl _) ?_
  repeat refine AWp.seq ?_
  refine AWp.reg1 {} hT (fun A hA => by cbv) (Nat.zero_le _) ?_
  try dsimp only [AExit.then, AExit.block]
  by_cases e1 : t = u
  · repeat refine AWp.seq ?_
    refine AWp.reg1D {} hT rfl (fun A hA => by
        have f0 := ar_eq hA e1
        repeat (cbv; simp only [f0])
        cbv) (by kernel_rfl) (Nat.zero_le _) ?_
    try dsimp only [AExit.then, AExit.block]
    repeat refine AWp.seq ?_
    refine AWp.ret ⟨?_, rfl, rfl, Nat.zero_le _, _, rfl⟩
    simp [e1]; rfl
  · by_cases e2 : v = v'
    · cases p with
      | true =>
        repeat refine AWp.seq ?_
        refine AWp.reg1D {} hT rfl (fun A hA => by
            have f0 := ar_ne hA e1
            have f1 := ar_le hA h0
            have f2 := ar_get hA h2
            have f3 := ar_le hA h1
            have f4 := ar_get hA h3
            have f5 := ar_le hA g0
            have f6 := ar_get hA g2
            have f7 := ar_le hA g1
            have f8 := ar_get hA g3
            have f9 := ar_eq hA e2
            repeat (cbv; simp only [f0, f1, f2, f3, f4, f5, f6, f7, f8, f9])
            cbv) (by kernel_rfl) (Nat.zero_le _) ?_
        try dsimp only [AExit.then, AExit.block]
        repeat refine AWp.seq ?_
        refine AWp.ret ⟨?_, rfl, rfl, Nat.zero_le _, _, rfl⟩
        simp [e1, e2]; rfl
      | false =>
        repeat refine AWp.seq ?_
        refine AWp.reg1D {} hT rfl (fun A hA => by
            have f0 := ar_ne hA e1
            have f1 := ar_le hA h0
            have f2 := ar_get hA h2
            have f3 := ar_le hA h1
            have f4 := ar_get hA h3
            have f5 := ar_le hA g0
            have f6 := ar_get hA g2
            have f7 := ar_le hA g1
            have f8 := ar_get hA g3
            have f9 := ar_eq hA e2
            repeat (cbv; simp only [f0, f1, f2, f3, f4, f5, f6, f7, f8, f9])
            cbv) (by kernel_rfl) (Nat.zero_le _) ?_
        try dsimp only [AExit.then, AExit.block]
        repeat refine AWp.seq ?_
        refine AWp.ret ⟨?_, rfl, rfl, Nat.zero_le _, _, rfl⟩
        simp [e1, e2]; rfl
    · repeat refine AWp.seq ?_
      refine AWp.reg1D {} hT rfl (fun A hA => by
          have f0 := ar_ne hA e1
          have f1 := ar_le hA h0
          have f2 := ar_get hA h2
          have f3 := ar_le hA h1
          have f4 := ar_get hA h3
          have f5 := ar_le hA g0
          have f6 := ar_get hA g2
          have f7 := ar_le hA g1
          have f8 := ar_get hA g3
          have f9 := ar_ne hA e2
          repeat (cbv; simp only [f0, f1, f2, f3, f4, f5, f6, f7, f8, f9])
          cbv) (by kernel_rfl) (Nat.zero_le _) ?_
      try dsimp only [AExit.then, AExit.block]
      repeat refine AWp.seq ?_
      refine AWp.ret ⟨?_, rfl, rfl, Nat.zero_le _, _, rfl⟩
      simp [e1, e2]; rfl

theorem isPairR_ok (x : List (List Acc)) (t a b : Int) (hx : Small x) : ACall P 34 [.d (dX x), .d (.agg [I t, I a, I b])] [] (AB (isPair x (t, a, b))) [] := by
  have c1 := isAccess_ok x t a hx
  have c2 := isAccess_ok x t b hx
  have hI : isPair x (t, a, b) = (there x t a && there x t b && decide (a < b) && decide ((acc x t a).1 ≠ (acc x t b).1)) := by
    unfold isPair
    dsimp only
    cases there x t a <;> cases there x t b <;> cases decide (a < b) <;> simp
  rw [hI]
  unfold dX at *
  cases h1 : there x t a with
  | false =>
    rw [h1] at c1
    obtain ⟨X, hX⟩ : ∃ X, x.map dAccs = X := ⟨_, rfl⟩
    rw [hX] at c1 ⊢
    refine ACall.enter hT (fn := Try.f34) Try.func34 rfl (by decide) (by simp [Try.f34]) rfl rfl rfl rfl (Nat.le_refl _) ?_
    repeat refine AWp.seq ?_
    refine AWp.reg1 {} hT (fun A hA => by cbv) (Nat.zero_le _) ?_
    try dsimp only [AExit.then, AExit.block]
    repeat refine AWp.seq ?_
    refine AWp.regionDraw rfl (Nat.zero_le _) ?_
    refine DOps.stepCall hT (an := {}) rfl (fun A hA => by cbv) rfl rfl (Nat.le_of_ble_eq_true rfl) rfl rfl (c1) ?_
    refine DOps.done hT (an := {}) rfl (fun A hA => by cbv) (by kernel_rfl) ?_
    try dsimp only [AExit.then, AExit.block]
    repeat refine AWp.seq ?_
    refine AWp.ret ⟨?_, rfl, rfl, Nat.zero_le _, _, rfl⟩
    rfl
  | true =>
    cases h2 : there x t b with
    | false =>
      rw [h1] at c1
      rw [h2] at c2
      obtain ⟨X, hX⟩ : ∃ X, x.map dAccs = X := ⟨_, rfl⟩
      rw [hX] at c1 c2 ⊢
      refine ACall.enter hT (fn := Try.f34) Try.func34 rfl (by decide) (by simp [Try.f34]) rfl rfl rfl rfl (Nat.le_refl _) ?_
      repeat refine AWp.seq ?_
      refine AWp.reg1 {} hT (fun A hA => by cbv) (Nat.zero_le _) ?_
      try dsimp only [AExit.then, AExit.block]
      repeat refine AWp.seq ?_
      refine AWp.regionDraw rfl (Nat.zero_le _) ?_
      refine DOps.stepCall hT (an := {}) rfl (fun A hA => by cbv) rfl rfl (Nat.le_of_ble_eq_true rfl) rfl rfl (c1) ?_
      refine DOps.stepCall hT (an := {}) rfl (fun A hA => by cbv) rfl rfl (Nat.le_of_ble_eq_true rfl) rfl rfl (c2) ?_
      refine DOps.done hT (an := {}) rfl (fun A hA => by cbv) (by kernel_rfl) ?_
      try dsimp only [AExit.then, AExit.block]
      repeat refine AWp.seq ?_
      refine AWp.ret ⟨?_, rfl, rfl, Nat.zero_le _, _, rfl⟩
      rfl
    | true =>
      rw [h1] at c1
      rw [h2] at c2
      obtain ⟨k0, k1, L, k2, k3⟩ := there_at h1
      obtain ⟨_, g1, M, g2, g3⟩ := there_at h2
      have hLM : M = L := by rw [k2] at g2; cases g2; rfl
      subst hLM
      obtain ⟨X, hX⟩ : ∃ X, x.map dAccs = X := ⟨_, rfl⟩
      rw [hX] at c1 c2 k2 ⊢
      obtain ⟨v, hv⟩ : ∃ v, (acc x t a).1 = v := ⟨_, rfl⟩
      obtain ⟨v', hv'⟩ : ∃ v, (acc x t b).1 = v := ⟨_, rfl⟩
      obtain ⟨p, hp⟩ : ∃ v, (acc x t a).2 = v := ⟨_, rfl⟩
      obtain ⟨p', hp'⟩ : ∃ v, (acc x t b).2 = v := ⟨_, rfl⟩
      rw [hv, hp] at k3
      rw [hv', hp'] at g3
      rw [hv, hv']
      refine ACall.enter hT (fn := Try.f34) Try.func34 rfl (by decide) (by simp [Try.f34]) rfl rfl rfl rfl (Nat.le_refl _) ?_
      repeat refine AWp.seq ?_
      refine AWp.reg1 {} hT (fun A hA => by cbv) (Nat.zero_le _) ?_
      try dsimp only [AExit.then, AExit.block]
      repeat refine AWp.seq ?_
      refine AWp.regionDraw rfl (Nat.zero_le _) ?_
      refine DOps.stepCall hT (an := {}) rfl (fun A hA => by cbv) rfl rfl (Nat.le_of_ble_eq_true rfl) rfl rfl (c1) ?_
      refine DOps.stepCall hT (an := {}) rfl (fun A hA => by cbv) rfl rfl (Nat.le_of_ble_eq_true rfl) rfl rfl (c2) ?_
      by_cases e : a < b
      · by_cases e2 : v = v'
        · refine DOps.done hT (an := {}) rfl (fun A hA => by
              have f0 := ar_lt hA e
              have f1 := ar_le hA k0
              have f2 := ar_get hA k2
              have f3 := ar_le hA k1
              have f4 := ar_get hA k3
              have f5 := ar_le hA g1
              have f6 := ar_get hA g3
              have f7 := ar_eq hA e2
              repeat (cbv; simp only [f0, f1, f2, f3, f4, f5, f6, f7])
              cbv) (by kernel_rfl) ?_
          try dsimp only [AExit.then, AExit.block]
          repeat refine AWp.seq ?_
          refine AWp.ret ⟨?_, rfl, rfl, Nat.zero_le _, _, rfl⟩
          simp [e, e2]; rfl
        · refine DOps.done hT (an := {}) rfl (fun A hA => by
              have f0 := ar_lt hA e
              have f1 := ar_le hA k0
              have f2 := ar_get hA k2
              have f3 := ar_le hA k1
              have f4 := ar_get hA k3
              have f5 := ar_le hA g1
              have f6 := ar_get hA g3
              have f7 := ar_ne hA e2
              repeat (cbv; simp only [f0, f1, f2, f3, f4, f5, f6, f7])
              cbv) (by kernel_rfl) ?_
          try dsimp only [AExit.then, AExit.block]
          repeat refine AWp.seq ?_
          refine AWp.ret ⟨?_, rfl, rfl, Nat.zero_le _, _, rfl⟩
          simp [e, e2]; rfl
      · refine DOps.done hT (an := {}) rfl (fun A hA => by
            have f0 := ar_nlt hA e
            repeat (cbv; simp only [f0])
            cbv) (by kernel_rfl) ?_
        try dsimp only [AExit.then, AExit.block]
        repeat refine AWp.seq ?_
        refine AWp.ret ⟨?_, rfl, rfl, Nat.zero_le _, _, rfl⟩
        simp [e]; rfl

/-- What both say of two accesses. -/
def conflictT (x : List (List Acc)) (t a u b : Int) : List AV :=
  if valid x then (if there x t a && there x u b then [AB (conflict x t a u b), AI 0] else [AB false, AI 2]) else [AB false, AI 90]

theorem Conflict_ok (x : List (List Acc)) (t a u b : Int) (hx : Big x) (hsm : valid x = true → Small x) : ACall P 18 [.d (dX x), AI t, AI a, AI u, AI b] [] (.tuple (conflictT x t a u b)) [] := by
  have cv := valid_ok x hx
  unfold conflictT
  cases hv : valid x with
  | false =>
    rw [hv] at cv
    obtain ⟨X, hX⟩ : ∃ X, dX x = X := ⟨_, rfl⟩
    rw [hX] at cv ⊢
    refine ACall.enter hT (fn := Try.f18) Try.func18 rfl (by decide) (by simp [Try.f18]) rfl rfl rfl rfl (Nat.le_refl _) ?_
    repeat refine AWp.seq ?_
    refine AWp.reg1 {} hT (fun A hA => by cbv) (Nat.zero_le _) ?_
    try dsimp only [AExit.then, AExit.block]
    repeat refine AWp.seq ?_
    refine AWp.reg1 {} hT (fun A hA => by cbv) (Nat.zero_le _) ?_
    try dsimp only [AExit.then, AExit.block]
    repeat refine AWp.seq ?_
    refine AWp.block ?_
    repeat refine AWp.seq ?_
    refine AWp.region ?_
    refine AOps.stepCall hT (an := {}) (fun A hA => by cbv) (Nat.zero_le _) rfl (.inr rfl) rfl rfl rfl (Nat.le_of_ble_eq_true rfl) rfl rfl (cv) ?_
    refine AOps.done hT (an := {}) (fun A hA => by cbv) (Nat.zero_le _) ?_
    try dsimp only [AExit.then, AExit.block]
    repeat refine AWp.seq ?_
    refine AWp.cond (b := true) rfl ?_
    rw [if_pos rfl]
    repeat refine AWp.seq ?_
    refine AWp.reg1 {} hT (fun A hA => by cbv) (Nat.zero_le _) ?_
    try dsimp only [AExit.then, AExit.block]
    repeat refine AWp.seq ?_
    refine AWp.ret ⟨?_, rfl, rfl, Nat.zero_le _, _, rfl⟩
    rfl
  | true =>
    have hs := hsm hv
    rw [hv] at cv
    have c1 := there_ok x t a hs
    have c2 := there_ok x u b hs
    cases h1 : there x t a with
    | false =>
      rw [h1] at c1
      obtain ⟨X, hX⟩ : ∃ X, dX x = X := ⟨_, rfl⟩
      rw [hX] at cv c1 ⊢
      refine ACall.enter hT (fn := Try.f18) Try.func18 rfl (by decide) (by simp [Try.f18]) rfl rfl rfl rfl (Nat.le_refl _) ?_
      repeat refine AWp.seq ?_
      refine AWp.reg1 {} hT (fun A hA => by cbv) (Nat.zero_le _) ?_
      try dsimp only [AExit.then, AExit.block]
      repeat refine AWp.seq ?_
      refine AWp.reg1 {} hT (fun A hA => by cbv) (Nat.zero_le _) ?_
      try dsimp only [AExit.then, AExit.block]
      repeat refine AWp.seq ?_
      refine AWp.block ?_
      repeat refine AWp.seq ?_
      refine AWp.region ?_
      refine AOps.stepCall hT (an := {}) (fun A hA => by cbv) (Nat.zero_le _) rfl (.inr rfl) rfl rfl rfl (Nat.le_of_ble_eq_true rfl) rfl rfl (cv) ?_
      refine AOps.done hT (an := {}) (fun A hA => by cbv) (Nat.zero_le _) ?_
      try dsimp only [AExit.then, AExit.block]
      repeat refine AWp.seq ?_
      refine AWp.cond (b := false) rfl ?_
      rw [if_neg Bool.false_ne_true]
      repeat refine AWp.seq ?_
      refine AWp.region ?_
      refine AOps.stepCall hT (an := {}) (fun A hA => by cbv) (Nat.zero_le _) rfl (.inr rfl) rfl rfl rfl (Nat.le_of_ble_eq_true rfl) rfl rfl (c1) ?_
      refine AOps.done hT (an := {}) (fun A hA => by cbv) (Nat.zero_le _) ?_
      try dsimp only [AExit.then, AExit.block]
      repeat refine AWp.seq ?_
      refine AWp.cond (b := true) rfl ?_
      rw [if_pos rfl]
      repeat refine AWp.seq ?_
      refine AWp.reg1 {} hT (fun A hA => by cbv) (Nat.zero_le _) ?_
      try dsimp only [AExit.then, AExit.block]
      repeat refine AWp.seq ?_
      refine AWp.ret ⟨?_, rfl, rfl, Nat.zero_le _, _, rfl⟩
      rfl
    | true =>
      cases h2 : there x u b with
      | false =>
        rw [h1] at c1
        rw [h2] at c2
        obtain ⟨X, hX⟩ : ∃ X, dX x = X := ⟨_, rfl⟩
        rw [hX] at cv c1 c2 ⊢
        refine ACall.enter hT (fn := Try.f18) Try.func18 rfl (by decide) (by simp [Try.f18]) rfl rfl rfl rfl (Nat.le_refl _) ?_
        repeat refine AWp.seq ?_
        refine AWp.reg1 {} hT (fun A hA => by cbv) (Nat.zero_le _) ?_
        try dsimp only [AExit.then, AExit.block]
        repeat refine AWp.seq ?_
        refine AWp.reg1 {} hT (fun A hA => by cbv) (Nat.zero_le _) ?_
        try dsimp only [AExit.then, AExit.block]
        repeat refine AWp.seq ?_
        refine AWp.block ?_
        repeat refine AWp.seq ?_
        refine AWp.region ?_
        refine AOps.stepCall hT (an := {}) (fun A hA => by cbv) (Nat.zero_le _) rfl (.inr rfl) rfl rfl rfl (Nat.le_of_ble_eq_true rfl) rfl rfl (cv) ?_
        refine AOps.done hT (an := {}) (fun A hA => by cbv) (Nat.zero_le _) ?_
        try dsimp only [AExit.then, AExit.block]
        repeat refine AWp.seq ?_
        refine AWp.cond (b := false) rfl ?_
        rw [if_neg Bool.false_ne_true]
        repeat refine AWp.seq ?_
        refine AWp.region ?_
        refine AOps.stepCall hT (an := {}) (fun A hA => by cbv) (Nat.zero_le _) rfl (.inr rfl) rfl rfl rfl (Nat.le_of_ble_eq_true rfl) rfl rfl (c1) ?_
        refine AOps.stepCall hT (an := {}) (fun A hA => by cbv) (Nat.zero_le _) rfl (.inr rfl) rfl rfl rfl (Nat.le_of_ble_eq_true rfl) rfl rfl (c2) ?_
        refine AOps.done hT (an := {}) (fun A hA => by cbv) (Nat.zero_le _) ?_
        try dsimp only [AExit.then, AExit.block]
        repeat refine AWp.seq ?_
        refine AWp.cond (b := true) rfl ?_
        rw [if_pos rfl]
        repeat refine AWp.seq ?_
        refine AWp.reg1 {} hT (fun A hA => by cbv) (Nat.zero_le _) ?_
        try dsimp only [AExit.then, AExit.block]
        repeat refine AWp.seq ?_
        refine AWp.ret ⟨?_, rfl, rfl, Nat.zero_le _, _, rfl⟩
        rfl
      | true =>
        have c3 := conflict_ok x t a u b h1 h2
        rw [h1] at c1
        rw [h2] at c2
        obtain ⟨X, hX⟩ : ∃ X, dX x = X := ⟨_, rfl⟩
        obtain ⟨r, hr⟩ : ∃ r, conflict x t a u b = r := ⟨_, rfl⟩
        rw [hX] at cv c1 c2 c3 ⊢
        rw [hr] at c3 ⊢
        refine ACall.enter hT (fn := Try.f18) Try.func18 rfl (by decide) (by simp [Try.f18]) rfl rfl rfl rfl (Nat.le_refl _) ?_
        repeat refine AWp.seq ?_
        refine AWp.reg1 {} hT (fun A hA => by cbv) (Nat.zero_le _) ?_
        try dsimp only [AExit.then, AExit.block]
        repeat refine AWp.seq ?_
        refine AWp.reg1 {} hT (fun A hA => by cbv) (Nat.zero_le _) ?_
        try dsimp only [AExit.then, AExit.block]
        repeat refine AWp.seq ?_
        refine AWp.block ?_
        repeat refine AWp.seq ?_
        refine AWp.region ?_
        refine AOps.stepCall hT (an := {}) (fun A hA => by cbv) (Nat.zero_le _) rfl (.inr rfl) rfl rfl rfl (Nat.le_of_ble_eq_true rfl) rfl rfl (cv) ?_
        refine AOps.done hT (an := {}) (fun A hA => by cbv) (Nat.zero_le _) ?_
        try dsimp only [AExit.then, AExit.block]
        repeat refine AWp.seq ?_
        refine AWp.cond (b := false) rfl ?_
        rw [if_neg Bool.false_ne_true]
        repeat refine AWp.seq ?_
        refine AWp.region ?_
        refine AOps.stepCall hT (an := {}) (fun A hA => by cbv) (Nat.zero_le _) rfl (.inr rfl) rfl rfl rfl (Nat.le_of_ble_eq_true rfl) rfl rfl (c1) ?_
        refine AOps.stepCall hT (an := {}) (fun A hA => by cbv) (Nat.zero_le _) rfl (.inr rfl) rfl rfl rfl (Nat.le_of_ble_eq_true rfl) rfl rfl (c2) ?_
        refine AOps.done hT (an := {}) (fun A hA => by cbv) (Nat.zero_le _) ?_
        try dsimp only [AExit.then, AExit.block]
        repeat refine AWp.seq ?_
        refine AWp.cond (b := false) rfl (AWp.skip ?_)
        try dsimp only [AExit.then, AExit.block]
        repeat refine AWp.seq ?_
        refine AWp.region ?_
        refine AOps.stepCall hT (an := {}) (fun A hA => by cbv) (Nat.zero_le _) rfl (.inr rfl) rfl rfl rfl (Nat.le_of_ble_eq_true rfl) rfl rfl (c3) ?_
        refine AOps.done hT (an := {}) (fun A hA => by cbv) (Nat.zero_le _) ?_
        try dsimp only [AExit.then, AExit.block]
        repeat refine AWp.seq ?_
        refine AWp.ret ⟨?_, rfl, rfl, Nat.zero_le _, _, rfl⟩
        rfl

theorem ConflictR_ok (x : List (List Acc)) (t a u b : Int) (hx : Big x) (hsm : valid x = true → Small x) : ACall P 19 [.d (dX x), AI t, AI a, AI u, AI b] [] (.tuple (conflictT x t a u b)) [] := by
  have cv := validR_ok x hx
  unfold conflictT
  cases hv : valid x with
  | false =>
    rw [hv] at cv
    obtain ⟨X, hX⟩ : ∃ X, dX x = X := ⟨_, rfl⟩
    rw [hX] at cv ⊢
    refine ACall.enter hT (fn := Try.f19) Try.func19 rfl (by decide) (by simp [Try.f19]) rfl rfl rfl rfl (Nat.le_refl _) ?_
    repeat refine AWp.seq ?_
    refine AWp.reg1 {} hT (fun A hA => by cbv) (Nat.zero_le _) ?_
    try dsimp only [AExit.then, AExit.block]
    repeat refine AWp.seq ?_
    refine AWp.region ?_
    refine AOps.stepCall hT (an := {}) (fun A hA => by cbv) (Nat.zero_le _) rfl (.inr rfl) rfl rfl rfl (Nat.le_of_ble_eq_true rfl) rfl rfl (cv) ?_
    refine AOps.done hT (an := {}) (fun A hA => by cbv) (Nat.zero_le _) ?_
    try dsimp only [AExit.then, AExit.block]
    repeat refine AWp.seq ?_
    refine AWp.cond (b := true) rfl ?_
    rw [if_pos rfl]
    repeat refine AWp.seq ?_
    refine AWp.reg1 {} hT (fun A hA => by cbv) (Nat.zero_le _) ?_
    try dsimp only [AExit.then, AExit.block]
    repeat refine AWp.seq ?_
    refine AWp.ret ⟨?_, rfl, rfl, Nat.zero_le _, _, rfl⟩
    rfl
  | true =>
    have hs := hsm hv
    rw [hv] at cv
    have c1 := isAccess_ok x t a hs
    have c2 := isAccess_ok x u b hs
    cases h1 : there x t a with
    | false =>
      rw [h1] at c1
      obtain ⟨X, hX⟩ : ∃ X, dX x = X := ⟨_, rfl⟩
      rw [hX] at cv c1 ⊢
      refine ACall.enter hT (fn := Try.f19) Try.func19 rfl (by decide) (by simp [Try.f19]) rfl rfl rfl rfl (Nat.le_refl _) ?_
      repeat refine AWp.seq ?_
      refine AWp.reg1 {} hT (fun A hA => by cbv) (Nat.zero_le _) ?_
      try dsimp only [AExit.then, AExit.block]
      repeat refine AWp.seq ?_
      refine AWp.region ?_
      refine AOps.stepCall hT (an := {}) (fun A hA => by cbv) (Nat.zero_le _) rfl (.inr rfl) rfl rfl rfl (Nat.le_of_ble_eq_true rfl) rfl rfl (cv) ?_
      refine AOps.done hT (an := {}) (fun A hA => by cbv) (Nat.zero_le _) ?_
      try dsimp only [AExit.then, AExit.block]
      repeat refine AWp.seq ?_
      refine AWp.cond (b := false) rfl (AWp.skip ?_)
      try dsimp only [AExit.then, AExit.block]
      repeat refine AWp.seq ?_
      refine AWp.region ?_
      refine AOps.stepCall hT (an := {}) (fun A hA => by cbv) (Nat.zero_le _) rfl (.inr rfl) rfl rfl rfl (Nat.le_of_ble_eq_true rfl) rfl rfl (c1) ?_
      refine AOps.done hT (an := {}) (fun A hA => by cbv) (Nat.zero_le _) ?_
      try dsimp only [AExit.then, AExit.block]
      repeat refine AWp.seq ?_
      refine AWp.cond (b := true) rfl ?_
      rw [if_pos rfl]
      repeat refine AWp.seq ?_
      refine AWp.reg1 {} hT (fun A hA => by cbv) (Nat.zero_le _) ?_
      try dsimp only [AExit.then, AExit.block]
      repeat refine AWp.seq ?_
      refine AWp.ret ⟨?_, rfl, rfl, Nat.zero_le _, _, rfl⟩
      rfl
    | true =>
      cases h2 : there x u b with
      | false =>
        rw [h1] at c1
        rw [h2] at c2
        obtain ⟨X, hX⟩ : ∃ X, dX x = X := ⟨_, rfl⟩
        rw [hX] at cv c1 c2 ⊢
        refine ACall.enter hT (fn := Try.f19) Try.func19 rfl (by decide) (by simp [Try.f19]) rfl rfl rfl rfl (Nat.le_refl _) ?_
        repeat refine AWp.seq ?_
        refine AWp.reg1 {} hT (fun A hA => by cbv) (Nat.zero_le _) ?_
        try dsimp only [AExit.then, AExit.block]
        repeat refine AWp.seq ?_
        refine AWp.region ?_
        refine AOps.stepCall hT (an := {}) (fun A hA => by cbv) (Nat.zero_le _) rfl (.inr rfl) rfl rfl rfl (Nat.le_of_ble_eq_true rfl) rfl rfl (cv) ?_
        refine AOps.done hT (an := {}) (fun A hA => by cbv) (Nat.zero_le _) ?_
        try dsimp only [AExit.then, AExit.block]
        repeat refine AWp.seq ?_
        refine AWp.cond (b := false) rfl (AWp.skip ?_)
        try dsimp only [AExit.then, AExit.block]
        repeat refine AWp.seq ?_
        refine AWp.region ?_
        refine AOps.stepCall hT (an := {}) (fun A hA => by cbv) (Nat.zero_le _) rfl (.inr rfl) rfl rfl rfl (Nat.le_of_ble_eq_true rfl) rfl rfl (c1) ?_
        refine AOps.stepCall hT (an := {}) (fun A hA => by cbv) (Nat.zero_le _) rfl (.inr rfl) rfl rfl rfl (Nat.le_of_ble_eq_true rfl) rfl rfl (c2) ?_
        refine AOps.done hT (an := {}) (fun A hA => by cbv) (Nat.zero_le _) ?_
        try dsimp only [AExit.then, AExit.block]
        repeat refine AWp.seq ?_
        refine AWp.cond (b := true) rfl ?_
        rw [if_pos rfl]
        repeat refine AWp.seq ?_
        refine AWp.reg1 {} hT (fun A hA => by cbv) (Nat.zero_le _) ?_
        try dsimp only [AExit.then, AExit.block]
        repeat refine AWp.seq ?_
        refine AWp.ret ⟨?_, rfl, rfl, Nat.zero_le _, _, rfl⟩
        rfl
      | true =>
        have c3 := conflictR_ok x t a u b h1 h2
        rw [h1] at c1
        rw [h2] at c2
        obtain ⟨X, hX⟩ : ∃ X, dX x = X := ⟨_, rfl⟩
        obtain ⟨r, hr⟩ : ∃ r, conflict x t a u b = r := ⟨_, rfl⟩
        rw [hX] at cv c1 c2 c3 ⊢
        rw [hr] at c3 ⊢
        refine ACall.enter hT (fn := Try.f19) Try.func19 rfl (by decide) (by simp [Try.f19]) rfl rfl rfl rfl (Nat.le_refl _) ?_
        repeat refine AWp.seq ?_
        refine AWp.reg1 {} hT (fun A hA => by cbv) (Nat.zero_le _) ?_
        try dsimp only [AExit.then, AExit.block]
        repeat refine AWp.seq ?_
        refine AWp.region ?_
        refine AOps.stepCall hT (an := {}) (fun A hA => by cbv) (Nat.zero_le _) rfl (.inr rfl) rfl rfl rfl (Nat.le_of_ble_eq_true rfl) rfl rfl (cv) ?_
        refine AOps.done hT (an := {}) (fun A hA => by cbv) (Nat.zero_le _) ?_
        try dsimp only [AExit.then, AExit.block]
        repeat refine AWp.seq ?_
        refine AWp.cond (b := false) rfl (AWp.skip ?_)
        try dsimp only [AExit.then, AExit.block]
        repeat refine AWp.seq ?_
        refine AWp.region ?_
        refine AOps.stepCall hT (an := {}) (fun A hA => by cbv) (Nat.zero_le _) rfl (.inr rfl) rfl rfl rfl (Nat.le_of_ble_eq_true rfl) rfl rfl (c1) ?_
        refine AOps.stepCall hT (an := {}) (fun A hA => by cbv) (Nat.zero_le _) rfl (.inr rfl) rfl rfl rfl (Nat.le_of_ble_eq_true rfl) rfl rfl (c2) ?_
        refine AOps.done hT (an := {}) (fun A hA => by cbv) (Nat.zero_le _) ?_
        try dsimp only [AExit.then, AExit.block]
        repeat refine AWp.seq ?_
        refine AWp.cond (b := false) rfl (AWp.skip ?_)
        try dsimp only [AExit.then, AExit.block]
        repeat refine AWp.seq ?_
        refine AWp.region ?_
        refine AOps.stepCall hT (an := {}) (fun A hA => by cbv) (Nat.zero_le _) rfl (.inr rfl) rfl rfl rfl (Nat.le_of_ble_eq_true rfl) rfl rfl (c3) ?_
        refine AOps.done hT (an := {}) (fun A hA => by cbv) (Nat.zero_le _) ?_
        try dsimp only [AExit.then, AExit.block]
        repeat refine AWp.seq ?_
        refine AWp.ret ⟨?_, rfl, rfl, Nat.zero_le _, _, rfl⟩
        rfl
end Go.Am
