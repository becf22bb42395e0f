/- Own text: D1r. -/
import Derived.Test.YtalfdjihejohoaaD1q
import Derived.Test.YtalfdjihejohoaaAmList
set_option maxRecDepth 100000
set_option linter.unusedVariables false
set_option linter.unusedSimpArgs false
namespace Go.Am
open Go Go.Proofs

/-! ### How many conflict, by the document -/
def cfB (x : List (List Acc)) (t u a b : Nat) : Nat := if conflict x t a u b then 1 else 0
def cfA (x : List (List Acc)) (t u a : Nat) : Nat := sumN (cfB x t u a) (x.getD u []).length
def cfU (x : List (List Acc)) (t u : Nat) : Nat := sumN (cfA x t u) (x.getD t []).length
def cfT (x : List (List Acc)) (t : Nat) : Nat := sumN (cfU x t) t
def nConfR (x : List (List Acc)) : Nat := sumN (cfT x) x.length

theorem small_len {x : List (List Acc)} (hx : Small x) (u : Nat) : (x.getD u []).length ≤ 1000 := by
  rw [List.getD_eq_getElem?_getD]
  cases h : x[u]? with
  | none => simp
  | some l => simpa using hx.2 l (List.mem_of_getElem? h)
theorem cfB_le (x : List (List Acc)) (t u a b : Nat) : cfB x t u a b ≤ 1 := by unfold cfB; split <;> omega
theorem cfA_le {x : List (List Acc)} (hx : Small x) (t u a : Nat) : cfA x t u a ≤ 1000 := by
  have := sumN_le (cfB x t u a) 1 (x.getD u []).length (fun _ _ => cfB_le _ _ _ _ _)
  have := small_len hx u
  unfold cfA; omega
theorem cfU_le {x : List (List Acc)} (hx : Small x) (t u : Nat) : cfU x t u ≤ 1000000 := by
  have h := sumN_le (cfA x t u) 1000 (x.getD t []).length (fun _ _ => cfA_le hx _ _ _)
  have := small_len hx t
  unfold cfU; omega
theorem cfT_le {x : List (List Acc)} (hx : Small x) (t : Nat) (ht : t < x.length) : cfT x t ≤ 1000000000 := by
  have h := sumN_le (cfU x t) 1000000 t (fun _ _ => cfU_le hx _ _)
  have := hx.1
  unfold cfT; omega

theorem conflictsR_ok (x : List (List Acc)) (hx : Big x) (hsm : valid x = true → Small x) : ACall P 21 [.d (dX x)] [] (.tuple (if valid x then [AI (nConfR x), AI 0] else [AI 0, AI 90])) [] := by
  have cv := validR_ok x hx
  cases hv : valid x with
  | false =>
    rw [hv] at cv
    obtain ⟨X, hX⟩ : ∃ X, dX x = X := ⟨_, rfl⟩
    rw [hX] at cv ⊢
    refine ACall.enter hT (fn := Try.f21) Try.func21 rfl (by decide) (by simp [Try.f21]) rfl rfl rfl rfl (Nat.le_refl _) ?_
    repeat refine AWp.seq ?_
    refine AWp.reg1 {} hT (fun A hA => by cbv) (Nat.zero_le _) ?_
    try dsimp only [AExit.then, AExit.block]
    repeat refine AWp.seq ?_
    refine AWp.region ?_
    refine AOps.stepCall hT (an := {}) (fun A hA => by cbv) (Nat.zero_le _) rfl (.inr rfl) rfl rfl rfl (Nat.le_of_ble_eq_true rfl) rfl rfl (cv) ?_
    refine AOps.done hT (an := {}) (fun A hA => by cbv) (Nat.zero_le _) ?_
    try dsimp only [AExit.then, AExit.block]
    repeat refine AWp.seq ?_
    refine AWp.cond (b := true) rfl ?_
    rw [if_pos rfl]
    repeat refine AWp.seq ?_
    refine AWp.reg1 {} hT (fun A hA => by cbv) (Nat.zero_le _) ?_
    try dsimp only [AExit.then, AExit.block]
    repeat refine AWp.seq ?_
    refine AWp.ret ⟨?_, rfl, rfl, Nat.zero_le _, _, rfl⟩
    rfl
  | true =>
    have hsm := hsm hv
    rw [hv] at cv
    have hcf : ∀ t a u b, there x t a = true → there x u b = true → ACall P 66 [.d (dX x), AI t, AI a, AI u, AI b] [] (AB (conflict x t a u b)) [] := fun t a u b => conflictR_ok x t a u b
    unfold dX at *
    obtain ⟨X, hX⟩ : ∃ X, x.map dAccs = X := ⟨_, rfl⟩
    obtain ⟨n, hn⟩ : ∃ n : Int, (X.length : Int) = n := ⟨_, rfl⟩
    have hxl : (x.length : Int) = n := by rw [← hn, ← hX]; simp
    have hs := hsm.1
    rw [hX] at cv hcf ⊢
    rw [if_pos rfl]
    obtain ⟨N, hN⟩ : ∃ N : Int, (nConfR x : Int) = N := ⟨_, rfl⟩
    rw [hN]
    have row : ∀ (z : Int), 0 ≤ z → z < n → ∃ (L' : List D) (k : Int), X[z.toNat]? = some (.list 2 L') ∧ (L'.length : Int) = k ∧ ((x.getD z.toNat []).length : Int) = k ∧ k ≤ 1000 := by
      intro z h0 h1
      obtain ⟨L, hL⟩ : ∃ L, x[z.toNat]? = some L := ⟨_, List.getElem?_eq_getElem (by omega)⟩
      have := small_len hsm z.toNat
      refine ⟨L.map dAcc, L.length, by rw [← hX, List.getElem?_map, hL]; rfl, by simp, by rw [List.getD_eq_getElem?_getD, hL]; rfl, ?_⟩
      rw [List.getD_eq_getElem?_getD, hL] at this
      simp only [Option.getD_some] at this
      omega
    have inn : ∀ (z y : Int), 0 ≤ z → z < n → 0 ≤ y → y < ((x.getD z.toNat []).length : Int) → there x z y = true := by
      intro z y h0 h1 h2 h3
      obtain ⟨L, hL⟩ : ∃ L, x[z.toNat]? = some L := ⟨_, List.getElem?_eq_getElem (by omega)⟩
      rw [List.getD_eq_getElem?_getD, hL] at h3
      simp only [Option.getD_some] at h3
      unfold there; rw [hL]; simp [h0, h2, h3]
    refine ACall.enter hT (fn := Try.f21) Try.func21 rfl (by decide) (by simp [Try.f21]) rfl rfl rfl rfl (Nat.le_refl _) ?_
    repeat refine AWp.seq ?_
    refine AWp.reg1 {} hT (fun A hA => by cbv) (Nat.zero_le _) ?_
    try dsimp only [AExit.then, AExit.block]
    repeat refine AWp.seq ?_
    refine AWp.region ?_
    refine AOps.stepCall hT (an := {}) (fun A hA => by cbv) (Nat.zero_le _) rfl (.inr rfl) rfl rfl rfl (Nat.le_of_ble_eq_true rfl) rfl rfl (cv) ?_
    refine AOps.done hT (an := {}) (fun A hA => by cbv) (Nat.zero_le _) ?_
    try dsimp only [AExit.then, AExit.block]
    repeat refine AWp.seq ?_
    refine AWp.cond (b := false) rfl (AWp.skip ?_)
    try dsimp only [AExit.then, AExit.block]
    repeat refine AWp.seq ?_
    refine AWp.reg1 {} hT (fun A hA => by cbv) (Nat.zero_le _) ?_
    try dsimp only [AExit.then, AExit.block]
    repeat refine AWp.seq ?_
    refine AWp.reg1 {} hT (fun A hA => by
        have f0 := ar_len hA X n hn
        repeat (cbv; simp only [f0])
        cbv) (Nat.zero_le _) ?_
    try dsimp only [AExit.then, AExit.block]
    refine AWp.block (AWp.loopInv (ι := Int × Int) (fun p => 0 ≤ p.1 ∧ p.1 ≤ n ∧ p.2 = (sumN (cfT x) p.1.toNat : Int)) (fun p => (n - p.1).toNat) [0, 4, 13, 14]
      (fun p => { env := [(0, .d (.list 1 X)), (4, AI p.2), (13, AI n), (14, AI p.1)], heap := [], n := 50 }) (0, 0) (by cbv) ⟨Int.le_refl _, by dsimp only; omega, rfl⟩ ?_)
    rintro ⟨t, c⟩ ⟨h0, h1, hc⟩
    dsimp only at *
    by_cases ht : t < n
    · obtain ⟨LT, kt, hXt, hkt, hkT, hkt1⟩ := row t h0 ht
      obtain ⟨t1, ht1⟩ : ∃ z1, t + 1 = z1 := ⟨_, rfl⟩
      have hcb : c ≤ t * 1000000000 := by
        have := sumN_le (cfT x) 1000000000 t.toNat (fun i hi => cfT_le hsm i (by omega))
        rw [hc]; omega
      have hc0 : 0 ≤ c := by rw [hc]; omega
      repeat refine AWp.seq ?_
      refine AWp.reg1 {} hT (fun A hA => by
          have f0 := ar_lt hA ht
          repeat (cbv; simp only [f0])
          cbv) (Nat.zero_le _) ?_
      try dsimp only [AExit.then, AExit.block]
      repeat refine AWp.seq ?_
      refine AWp.cond (b := true) rfl (AWp.skip ?_)
      try dsimp only [AExit.then, AExit.block]
      repeat refine AWp.seq ?_
      refine AWp.block ?_
      repeat refine AWp.seq ?_
      refine AWp.reg1 {} hT (fun A hA => by cbv) (Nat.zero_le _) ?_
      try dsimp only [AExit.then, AExit.block]
      repeat refine AWp.seq ?_
      refine AWp.reg1 {} hT (fun A hA => by cbv) (Nat.zero_le _) ?_
      try dsimp only [AExit.then, AExit.block]
      refine AWp.block (AWp.loopInv (ι := Int × Int) (fun p => 0 ≤ p.1 ∧ p.1 ≤ t ∧ p.2 = c + (sumN (cfU x t.toNat) p.1.toNat : Int)) (fun p => (t - p.1).toNat) [0, 4, 5, 13, 14, 17, 18]
        (fun p => { env := [(0, .d (.list 1 X)), (4, AI p.2), (5, AI t), (13, AI n), (14, AI t), (17, AI t), (18, AI p.1)], heap := [], n := 50 }) (0, c) (by cbv) ⟨Int.le_refl _, by dsimp only; omega, by simp [sumN]⟩ ?_)
      rintro ⟨u, c1⟩ ⟨g0, g1, gc⟩
      dsimp only at *
      by_cases hu : u < t
      · obtain ⟨LU, ku, hXu, hku, hkU, hku1⟩ := row u g0 (by omega)
        obtain ⟨u1, hu1⟩ : ∃ z1, u + 1 = z1 := ⟨_, rfl⟩
        have gcb : c1 ≤ c + u * 1000000 := by
          have := sumN_le (cfU x t.toNat) 1000000 u.toNat (fun i hi => cfU_le hsm _ _)
          rw [gc]; omega
        repeat refine AWp.seq ?_
        refine AWp.reg1 {} hT (fun A hA => by
            have f0 := ar_lt hA hu
            repeat (cbv; simp only [f0])
            cbv) (Nat.zero_le _) ?_
        try dsimp only [AExit.then, AExit.block]
        repeat refine AWp.seq ?_
        refine AWp.cond (b := true) rfl (AWp.skip ?_)
        try dsimp only [AExit.then, AExit.block]
        repeat refine AWp.seq ?_
        refine AWp.block ?_
        repeat refine AWp.seq ?_
        refine AWp.reg1 {} hT (fun A hA => by cbv) (Nat.zero_le _) ?_
        try dsimp only [AExit.then, AExit.block]
        repeat refine AWp.seq ?_
        refine AWp.reg1 {} hT (fun A hA => by
            have f0 := ar_get hA hXt
            have f1 := ar_le hA h0
            have f2 := ar_len hA LT kt hkt
            repeat (cbv; simp only [f0, f1, f2])
            cbv) (Nat.zero_le _) ?_
        try dsimp only [AExit.then, AExit.block]
        refine AWp.block (AWp.loopInv (ι := Int × Int) (fun p => 0 ≤ p.1 ∧ p.1 ≤ kt ∧ p.2 = c1 + (sumN (cfA x t.toNat u.toNat) p.1.toNat : Int)) (fun p => (kt - p.1).toNat) [0, 4, 5, 6, 13, 14, 17, 18, 25, 26]
          (fun p => { env := [(0, .d (.list 1 X)), (4, AI p.2), (5, AI t), (6, AI u), (13, AI n), (14, AI t), (17, AI t), (18, AI u), (25, AI kt), (26, AI p.1)], heap := [], n := 50 }) (0, c1) (by cbv) ⟨Int.le_refl _, by dsimp only; omega, by simp [sumN]⟩ ?_)
        rintro ⟨a, c2⟩ ⟨e0, e1, ec⟩
        dsimp only at *
        by_cases ha : a < kt
        · obtain ⟨a1, ha1⟩ : ∃ z1, a + 1 = z1 := ⟨_, rfl⟩
          have ecb : c2 ≤ c1 + a * 1000 := by
            have := sumN_le (cfA x t.toNat u.toNat) 1000 a.toNat (fun i hi => cfA_le hsm _ _ _)
            rw [ec]; omega
          repeat refine AWp.seq ?_
          refine AWp.reg1 {} hT (fun A hA => by
              have f0 := ar_lt hA ha
              repeat (cbv; simp only [f0])
              cbv) (Nat.zero_le _) ?_
          try dsimp only [AExit.then, AExit.block]
          repeat refine AWp.seq ?_
          refine AWp.cond (b := true) rfl (AWp.skip ?_)
          try dsimp only [AExit.then, AExit.block]
          repeat refine AWp.seq ?_
          refine AWp.block ?_
          repeat refine AWp.seq ?_
          refine AWp.reg1 {} hT (fun A hA => by cbv) (Nat.zero_le _) ?_
          try dsimp only [AExit.then, AExit.block]
          repeat refine AWp.seq ?_
          refine AWp.reg1 {} hT (fun A hA => by
              have f0 := ar_get hA hXu
              have f1 := ar_le hA g0
              have f2 := ar_len hA LU ku hku
              repeat (cbv; simp only [f0, f1, f2])
              cbv) (Nat.zero_le _) ?_
          try dsimp only [AExit.then, AExit.block]
          refine AWp.block (AWp.loopInv (ι := Int × Int) (fun p => 0 ≤ p.1 ∧ p.1 ≤ ku ∧ p.2 = c2 + (sumN (cfB x t.toNat u.toNat a.toNat) p.1.toNat : Int)) (fun p => (ku - p.1).toNat) [0, 4, 5, 6, 7, 13, 14, 17, 18, 25, 26, 33, 34]
            (fun p => { env := [(0, .d (.list 1 X)), (4, AI p.2), (5, AI t), (6, AI u), (7, AI a), (13, AI n), (14, AI t), (17, AI t), (18, AI u), (25, AI kt), (26, AI a), (33, AI ku), (34, AI p.1)], heap := [], n := 50 }) (0, c2) (by cbv) ⟨Int.le_refl _, by dsimp only; omega, by simp [sumN]⟩ ?_)
          rintro ⟨b, c3⟩ ⟨f0, f1, fc⟩
          dsimp only at *
          by_cases hb : b < ku
          · obtain ⟨b1, hb1⟩ : ∃ z1, b + 1 = z1 := ⟨_, rfl⟩
            have fcb : c3 ≤ c2 + b := by
              have := sumN_le (cfB x t.toNat u.toNat a.toNat) 1 b.toNat (fun i hi => cfB_le _ _ _ _ _)
              rw [fc]; omega
            have hcc := hcf t a u b (inn t a h0 ht e0 (by omega)) (inn u b g0 (by omega) f0 (by omega))
            obtain ⟨r, hr⟩ : ∃ r, conflict x t a u b = r := ⟨_, rfl⟩
            have hstep : sumN (cfB x t.toNat u.toNat a.toNat) b1.toNat = sumN (cfB x t.toNat u.toNat a.toNat) b.toNat + if r then 1 else 0 := by
              rw [show b1.toNat = b.toNat + 1 by omega]
              simp only [sumN, cfB]
              rw [show ((t.toNat : Nat) : Int) = t by omega, show ((u.toNat : Nat) : Int) = u by omega, show ((a.toNat : Nat) : Int) = a by omega, show ((b.toNat : Nat) : Int) = b by omega, hr]
            rw [hr] at hcc
            repeat refine AWp.seq ?_
            refine AWp.reg1 {} hT (fun A hA => by
                have f0 := ar_lt hA hb
                repeat (cbv; simp only [f0])
                cbv) (Nat.zero_le _) ?_
            try dsimp only [AExit.then, AExit.block]
            repeat refine AWp.seq ?_
            refine AWp.cond (b := true) rfl (AWp.skip ?_)
            try dsimp only [AExit.then, AExit.block]
            repeat refine AWp.seq ?_
            refine AWp.block ?_
            repeat refine AWp.seq ?_
            refine AWp.reg1 {} hT (fun A hA => by cbv) (Nat.zero_le _) ?_
            try dsimp only [AExit.then, AExit.block]
            repeat refine AWp.seq ?_
            refine AWp.region ?_
            refine AOps.stepCall hT (an := {}) (fun A hA => by cbv) (Nat.zero_le _) rfl (.inr rfl) rfl rfl rfl (Nat.le_of_ble_eq_true rfl) rfl rfl (hcc) ?_
            refine AOps.done hT (an := {}) (fun A hA => by cbv) (Nat.zero_le _) ?_
            try dsimp only [AExit.then, AExit.block]
            cases r with
            | true =>
              obtain ⟨c4, hc4⟩ : ∃ z1, c3 + 1 = z1 := ⟨_, rfl⟩
              repeat refine AWp.seq ?_
              refine AWp.cond (b := true) rfl ?_
              rw [if_pos rfl]
              repeat refine AWp.seq ?_
              refine AWp.reg1 {} hT (fun A hA => by
                  have f0 := ar_add hA c3 1 c4 hc4 (by omega) (by omega)
                  repeat (cbv; simp only [f0])
                  cbv) (Nat.zero_le _) ?_
              try dsimp only [AExit.then, AExit.block]
              repeat refine AWp.seq ?_
              refine AWp.reg1 {} hT (fun A hA => by
                  have f0 := ar_add hA b 1 b1 hb1 (by omega) (by omega)
                  repeat (cbv; simp only [f0])
                  cbv) (Nat.zero_le _) ?_
              try dsimp only [AExit.then, AExit.block]
              refine ⟨(b1, c4), ⟨by dsimp only; omega, by dsimp only; omega, ?_⟩, by dsimp only; omega, by cbv⟩
              dsimp only
              rw [hstep]
              simp only [if_true]
              omega
            | false =>
              repeat refine AWp.seq ?_
              refine AWp.cond (b := false) rfl (AWp.skip ?_)
              try dsimp only [AExit.then, AExit.block]
              repeat refine AWp.seq ?_
              refine AWp.reg1 {} hT (fun A hA => by
                  have f0 := ar_add hA b 1 b1 hb1 (by omega) (by omega)
                  repeat (cbv; simp only [f0])
                  cbv) (Nat.zero_le _) ?_
              try dsimp only [AExit.then, AExit.block]
              refine ⟨(b1, c3), ⟨by dsimp only; omega, by dsimp only; omega, ?_⟩, by dsimp only; omega, by cbv⟩
              dsimp only
              rw [hstep]
              simpa using fc
          · repeat refine AWp.seq ?_
            refine AWp.reg1 {} hT (fun A hA => by
                have f0 := ar_nlt hA hb
                repeat (cbv; simp only [f0])
                cbv) (Nat.zero_le _) ?_
            try dsimp only [AExit.then, AExit.block]
            repeat refine AWp.seq ?_
            refine AWp.cond (b := false) rfl (AWp.exit ?_)
            try dsimp only [AExit.then, AExit.block]
            rw [if_pos rfl]
            repeat refine AWp.seq ?_
            refine AWp.reg1 {} hT (fun A hA => by
                have f0 := ar_add hA a 1 a1 ha1 (by omega) (by omega)
                repeat (cbv; simp only [f0])
                cbv) (Nat.zero_le _) ?_
            try dsimp only [AExit.then, AExit.block]
            refine ⟨(a1, c3), ⟨by dsimp only; omega, by dsimp only; omega, ?_⟩, by dsimp only; omega, by cbv⟩
            dsimp only
            rw [show a1.toNat = a.toNat + 1 by omega]
            simp only [sumN]
            have hbk : b.toNat = (x.getD u.toNat []).length := by omega
            unfold cfA
            rw [fc, hbk, ec]
            unfold cfA
            omega
        · repeat refine AWp.seq ?_
          refine AWp.reg1 {} hT (fun A hA => by
              have f0 := ar_nlt hA ha
              repeat (cbv; simp only [f0])
              cbv) (Nat.zero_le _) ?_
          try dsimp only [AExit.then, AExit.block]
          repeat refine AWp.seq ?_
          refine AWp.cond (b := false) rfl (AWp.exit ?_)
          try dsimp only [AExit.then, AExit.block]
          rw [if_pos rfl]
          repeat refine AWp.seq ?_
          refine AWp.reg1 {} hT (fun A hA => by
              have f0 := ar_add hA u 1 u1 hu1 (by omega) (by omega)
              repeat (cbv; simp only [f0])
              cbv) (Nat.zero_le _) ?_
          try dsimp only [AExit.then, AExit.block]
          refine ⟨(u1, c2), ⟨by dsimp only; omega, by dsimp only; omega, ?_⟩, by dsimp only; omega, by cbv⟩
          dsimp only
          rw [show u1.toNat = u.toNat + 1 by omega]
          simp only [sumN]
          have hbk : a.toNat = (x.getD t.toNat []).length := by omega
          have : cfU x t.toNat u.toNat = sumN (cfA x t.toNat u.toNat) (x.getD t.toNat []).length := rfl
          rw [this, ec, hbk, gc]
          omega
      · repeat refine AWp.seq ?_
        refine AWp.reg1 {} hT (fun A hA => by
            have f0 := ar_nlt hA hu
            repeat (cbv; simp only [f0])
            cbv) (Nat.zero_le _) ?_
        try dsimp only [AExit.then, AExit.block]
        repeat refine AWp.seq ?_
        refine AWp.cond (b := false) rfl (AWp.exit ?_)
        try dsimp only [AExit.then, AExit.block]
        rw [if_pos rfl]
        repeat refine AWp.seq ?_
        refine AWp.reg1 {} hT (fun A hA => by
            have f0 := ar_add hA t 1 t1 ht1 (by omega) (by omega)
            repeat (cbv; simp only [f0])
            cbv) (Nat.zero_le _) ?_
        try dsimp only [AExit.then, AExit.block]
        refine ⟨(t1, c1), ⟨by dsimp only; omega, by dsimp only; omega, ?_⟩, by dsimp only; omega, by cbv⟩
        dsimp only
        rw [show t1.toNat = t.toNat + 1 by omega]
        simp only [sumN]
        have hbk : u.toNat = t.toNat := by omega
        have : cfT x t.toNat = sumN (cfU x t.toNat) t.toNat := rfl
        rw [this, gc, hbk, hc]
        omega
    · repeat refine AWp.seq ?_
      refine AWp.reg1 {} hT (fun A hA => by
          have f0 := ar_nlt hA ht
          repeat (cbv; simp only [f0])
          cbv) (Nat.zero_le _) ?_
      try dsimp only [AExit.then, AExit.block]
      repeat refine AWp.seq ?_
      refine AWp.cond (b := false) rfl (AWp.exit ?_)
      try dsimp only [AExit.then, AExit.block]
      rw [if_pos rfl]
      repeat refine AWp.seq ?_
      refine AWp.reg1 {} hT (fun A hA => by cbv) (Nat.zero_le _) ?_
      try dsimp only [AExit.then, AExit.block]
      repeat refine AWp.seq ?_
      refine AWp.ret ⟨?_, rfl, rfl, Nat.zero_le _, _, rfl⟩
      have : c = N := by
        rw [hc, ← hN, show t.toNat = x.length by omega]; rfl
      rw [this]; rfl

theorem ar_deq {A : Ar} (hA : A = Ar.std) {l m : List D} {r : Bool} (h : l = m ↔ r = true) : A.deq l m = r := by
  subst hA
  cases r with
  | true => simp only [Ar.std, h.2 rfl, decide_true]
  | false =>
    have : ¬ l = m := fun e => by simpa using h.1 e
    simp only [Ar.std, this, decide_false]
theorem ar_beq {A : Ar} (hA : A = Ar.std) {l m r : Bool} (h : (l == m) = r) : A.beq l m = r := by subst hA; exact h
/-! ### The same stations -/
theorem dSta_inj : ∀ {a b : Sta}, dSta a = dSta b → a = b := by
  rintro ⟨a, b, c⟩ ⟨d, e, f⟩ h
  simp [dSta] at h
  simp [h]
theorem sameStations_ok (p q : List Sta) (hp : p.length ≤ 9223372036854775807) : ACall P 24 [.d (.list 3 (p.map dSta)), .d (.list 3 (q.map dSta))] [] (AB (decide (p = q))) [] := by
  obtain ⟨X, hX⟩ : ∃ X, p.map dSta = X := ⟨_, rfl⟩
  obtain ⟨Y, hY⟩ : ∃ Y, q.map dSta = Y := ⟨_, rfl⟩
  obtain ⟨n, hn⟩ : ∃ n : Int, (X.length : Int) = n := ⟨_, rfl⟩
  obtain ⟨m, hm⟩ : ∃ n : Int, (Y.length : Int) = n := ⟨_, rfl⟩
  have hpl : (p.length : Int) = n := by rw [← hn, ← hX]; simp
  have hql : (q.length : Int) = m := by rw [← hm, ← hY]; simp
  rw [hX, hY]
  refine ACall.enter hT (fn := Try.f24) Try.func24 rfl (by decide) (by simp [Try.f24]) rfl rfl rfl rfl (Nat.le_refl _) ?_
  repeat refine AWp.seq ?_
  refine AWp.reg1 {} hT (fun A hA => by cbv) (Nat.zero_le _) ?_
  try dsimp only [AExit.then, AExit.block]
  by_cases hnm : n = m
  · subst hnm
    repeat refine AWp.seq ?_
    refine AWp.reg1 {} hT (fun A hA => by
        have f0 := ar_len hA X n hn
        have f1 := ar_len hA Y n hm
        have f2 := ar_eq hA (rfl : n = n)
        repeat (cbv; simp only [f0, f1, f2])
        cbv) (Nat.zero_le _) ?_
    try dsimp only [AExit.then, AExit.block]
    repeat refine AWp.seq ?_
    refine AWp.cond (b := false) rfl (AWp.skip ?_)
    try dsimp only [AExit.then, AExit.block]
    repeat refine AWp.seq ?_
    refine AWp.reg1 {} hT (fun A hA => by
        have f0 := ar_len hA X n hn
        repeat (cbv; simp only [f0])
        cbv) (Nat.zero_le _) ?_
    try dsimp only [AExit.then, AExit.block]
    refine AWp.block (AWp.loopInv (ι := Int) (fun z => 0 ≤ z ∧ z ≤ n ∧ p.take z.toNat = q.take z.toNat) (fun z => (n - z).toNat) [0, 1, 12, 13]
      (fun z => { env := [(0, .d (.list 3 X)), (1, .d (.list 3 Y)), (12, AI n), (13, AI z)], heap := [], n := 26 }) 0 (by cbv) ⟨Int.le_refl _, by omega, by simp⟩ ?_)
    rintro z ⟨h0, h1, h2⟩
    by_cases hz : z < n
    · obtain ⟨z1, hz1⟩ : ∃ z1, z + 1 = z1 := ⟨_, rfl⟩
      obtain ⟨⟨a, b, c⟩, hs⟩ : ∃ s, p[z.toNat]? = some s := ⟨_, List.getElem?_eq_getElem (by omega)⟩
      obtain ⟨⟨a', b', c'⟩, hs'⟩ : ∃ s, q[z.toNat]? = some s := ⟨_, List.getElem?_eq_getElem (by omega)⟩
      have hXs : X[z.toNat]? = some (.agg [I a, I b, I c]) := by rw [← hX, List.getElem?_map, hs]; rfl
      have hYs : Y[z.toNat]? = some (.agg [I a', I b', I c']) := by rw [← hY, List.getElem?_map, hs']; rfl
      obtain ⟨r, hr⟩ : ∃ r, decide ((a, b, c) = (a', b', c')) = r := ⟨_, rfl⟩
      have hdeq : ∀ A : Ar, A = Ar.std → A.deq [I a, I b, I c] [I a', I b', I c'] = r := fun A hA => ar_deq hA (by rw [← hr]; simp)
      repeat refine AWp.seq ?_
      refine AWp.reg1 {} hT (fun A hA => by
          have f0 := ar_lt hA hz
          repeat (cbv; simp only [f0])
          cbv) (Nat.zero_le _) ?_
      try dsimp only [AExit.then, AExit.block]
      repeat refine AWp.seq ?_
      refine AWp.cond (b := true) rfl (AWp.skip ?_)
      try dsimp only [AExit.then, AExit.block]
      repeat refine AWp.seq ?_
      refine AWp.block ?_
      repeat refine AWp.seq ?_
      refine AWp.reg1 {} hT (fun A hA => by cbv) (Nat.zero_le _) ?_
      try dsimp only [AExit.then, AExit.block]
      cases r with
      | true =>
        repeat refine AWp.seq ?_
        refine AWp.reg1D {} hT rfl (fun A hA => by
            have f0 := ar_get hA hXs
            have f1 := ar_le hA h0
            have f2 := ar_get hA hYs
            have f3 := hdeq A hA
            repeat (cbv; simp only [f0, f1, f2, f3])
            cbv) (by kernel_rfl) (Nat.zero_le _) ?_
        try dsimp only [AExit.then, AExit.block]
        repeat refine AWp.seq ?_
        refine AWp.cond (b := false) rfl (AWp.skip ?_)
        try dsimp only [AExit.then, AExit.block]
        repeat refine AWp.seq ?_
        refine AWp.reg1 {} hT (fun A hA => by
            have f0 := ar_add hA z 1 z1 hz1 (by omega) (by omega)
            repeat (cbv; simp only [f0])
            cbv) (Nat.zero_le _) ?_
        try dsimp only [AExit.then, AExit.block]
        refine ⟨z1, ⟨by omega, by omega, ?_⟩, by omega, by cbv⟩
        rw [show z1.toNat = z.toNat + 1 by omega, List.take_add_one, List.take_add_one, h2, hs, hs']
        rw [of_decide_eq_true hr]
      | false =>
        repeat refine AWp.seq ?_
        refine AWp.reg1D {} hT rfl (fun A hA => by
            have f0 := ar_get hA hXs
            have f1 := ar_le hA h0
            have f2 := ar_get hA hYs
            have f3 := hdeq A hA
            repeat (cbv; simp only [f0, f1, f2, f3])
            cbv) (by kernel_rfl) (Nat.zero_le _) ?_
        try dsimp only [AExit.then, AExit.block]
        repeat refine AWp.seq ?_
        refine AWp.cond (b := true) rfl ?_
        rw [if_pos rfl]
        repeat refine AWp.seq ?_
        refine AWp.reg1 {} hT (fun A hA => by cbv) (Nat.zero_le _) ?_
        try dsimp only [AExit.then, AExit.block]
        repeat refine AWp.seq ?_
        refine AWp.ret ⟨?_, rfl, rfl, Nat.zero_le _, _, rfl⟩
        have : p ≠ q := by
          rintro rfl
          rw [hs] at hs'
          cases hs'
          simp at hr
        simp [this]; rfl
    · repeat refine AWp.seq ?_
      refine AWp.reg1 {} hT (fun A hA => by
          have f0 := ar_nlt hA hz
          repeat (cbv; simp only [f0])
          cbv) (Nat.zero_le _) ?_
      try dsimp only [AExit.then, AExit.block]
      repeat refine AWp.seq ?_
      refine AWp.cond (b := false) rfl (AWp.exit ?_)
      try dsimp only [AExit.then, AExit.block]
      rw [if_pos rfl]
      repeat refine AWp.seq ?_
      refine AWp.reg1 {} hT (fun A hA => by cbv) (Nat.zero_le _) ?_
      try dsimp only [AExit.then, AExit.block]
      repeat refine AWp.seq ?_
      refine AWp.ret ⟨?_, rfl, rfl, Nat.zero_le _, _, rfl⟩
      rw [List.take_of_length_le (by omega), List.take_of_length_le (by omega)] at h2
      simp [h2]; rfl
  · repeat refine AWp.seq ?_
    refine AWp.reg1 {} hT (fun A hA => by
        have f0 := ar_len hA X n hn
        have f1 := ar_len hA Y m hm
        have f2 := ar_ne hA hnm
        repeat (cbv; simp only [f0, f1, f2])
        cbv) (Nat.zero_le _) ?_
    try dsimp only [AExit.then, AExit.block]
    repeat refine AWp.seq ?_
    refine AWp.cond (b := true) rfl ?_
    rw [if_pos rfl]
    repeat refine AWp.seq ?_
    refine AWp.reg1 {} hT (fun A hA => by cbv) (Nat.zero_le _) ?_
    try dsimp only [AExit.then, AExit.block]
    repeat refine AWp.seq ?_
    refine AWp.ret ⟨?_, rfl, rfl, Nat.zero_le _, _, rfl⟩
    have : p ≠ q := by rintro rfl; omega
    simp [this]; rfl
end Go.Am
