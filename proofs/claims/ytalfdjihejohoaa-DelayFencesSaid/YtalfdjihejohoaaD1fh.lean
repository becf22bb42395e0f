/- Own text: D1fg, D1fh. -/
import Derived.Test.YtalfdjihejohoaaD1ff
import Derived.Test.YtalfdjihejohoaaD1r
set_option maxRecDepth 100000
set_option linter.unusedVariables false
set_option linter.unusedSimpArgs false
namespace Go.Am
open Go Go.Proofs

theorem AreCosts_ok (x : List (List Acc)) (c : List (List Int)) (hx : Small x) (hc : c.length ≤ 1000000000) (hcr : ∀ r ∈ c, r.length ≤ 9223372036854775807) : ACall P 50 [.d (dX x), .d (dCost c)] [] (AB (pricedB x c)) [] := by
  have hpr : ∀ t, prAt x c t = (decide (t < x.length) && decide ((c.getD t []).length = (x.getD t []).length - 1) && (c.getD t []).all in19) := fun t => rfl
  obtain ⟨F, hF⟩ : ∃ F, pricedB x c = F := ⟨_, rfl⟩
  rw [hF]
  unfold pricedB at hF
  obtain ⟨pr, hpr'⟩ : ∃ f, prAt x c = f := ⟨_, rfl⟩
  rw [hpr'] at hpr hF
  unfold dX dCost
  obtain ⟨X, hX⟩ : ∃ X, x.map dAccs = X := ⟨_, rfl⟩
  obtain ⟨C, hC⟩ : ∃ X, c.map dRow = X := ⟨_, rfl⟩
  obtain ⟨m, hm⟩ : ∃ n : Int, (X.length : Int) = n := ⟨_, rfl⟩
  obtain ⟨n, hn⟩ : ∃ n : Int, (C.length : Int) = n := ⟨_, rfl⟩
  have hxm : (x.length : Int) = m := by rw [← hm, ← hX]; simp
  have hcn : (c.length : Int) = n := by rw [← hn, ← hC]; simp
  rw [hX, hC]
  by_cases hnm : n = m
  · have hno : ∀ i, i < c.length → pr i = false → F = false := fun i hi h => by
      rw [← hF, List.all_eq_false.2 ⟨i, by simpa using hi, by rw [h]; decide⟩]; rfl
    rw [show decide (c.length = x.length) = true by simp; omega, Bool.and_true] at hF
    refine ACall.enter hT (fn := Try.f50) Try.func50 rfl (by decide) (by simp [Try.f50]) rfl rfl rfl rfl (Nat.le_refl _) ?_
    repeat refine AWp.seq ?_
    refine AWp.reg1 {} hT (fun A hA => by cbv) (Nat.zero_le _) ?_
    try dsimp only [AExit.then, AExit.block]
    repeat refine AWp.seq ?_
    refine AWp.reg1 {} hT (fun A hA => by
        have f0 := ar_len hA C n hn
        have f1 := ar_len hA X m hm
        have f2 := ar_eq hA hnm
        repeat (cbv; simp only [f0, f1, f2])
        cbv) (Nat.zero_le _) ?_
    try dsimp only [AExit.then, AExit.block]
    repeat refine AWp.seq ?_
    refine AWp.cond (b := false) rfl (AWp.skip ?_)
    try dsimp only [AExit.then, AExit.block]
    repeat refine AWp.seq ?_
    refine AWp.reg1 {} hT (fun A hA => by
        have f0 := ar_len hA C n hn
        repeat (cbv; simp only [f0])
        cbv) (Nat.zero_le _) ?_
    try dsimp only [AExit.then, AExit.block]
    refine AWp.block (AWp.loopInv (ι := Int) (fun z => 0 ≤ z ∧ z ≤ n ∧ ∀ i, i < z.toNat → pr i = true) (fun z => (n - z).toNat) [0, 1, 14, 15, 16]
      (fun z => { env := [(0, .d (.list 1 X)), (1, .d (.list 1 C)), (14, .d (.list 1 C)), (15, AI n), (16, AI z)], heap := [], n := 45 }) 0 (by cbv) ⟨Int.le_refl _, by omega, by simp⟩ ?_)
    rintro z ⟨h0, h1, h2⟩
    by_cases hz : z < n
    · obtain ⟨r, hr⟩ : ∃ s, c[z.toNat]? = some s := ⟨_, List.getElem?_eq_getElem (by omega)⟩
      obtain ⟨R, hR⟩ : ∃ R, r.map I = R := ⟨_, rfl⟩
      obtain ⟨k, hk⟩ : ∃ n : Int, (R.length : Int) = n := ⟨_, rfl⟩
      have hrk : (r.length : Int) = k := by rw [← hk, ← hR]; simp
      have hk9 := hcr r (List.mem_of_getElem? hr)
      have hCz : C[z.toNat]? = some (.list 1 R) := by rw [← hC, List.getElem?_map, hr, ← hR]; rfl
      obtain ⟨z1, hz1⟩ : ∃ z1, z + 1 = z1 := ⟨_, rfl⟩
      have hprz := hpr z.toNat
      rw [List.getD_eq_getElem?_getD (i := z.toNat) (l := c), hr] at hprz
      simp only [Option.getD_some] at hprz
      have hno' := hno z.toNat (by omega)
      rw [show decide (z.toNat < x.length) = true by simp; omega] at hprz
      obtain ⟨L, hL⟩ : ∃ L, x[z.toNat]? = some L := ⟨_, List.getElem?_eq_getElem (by omega)⟩
      obtain ⟨L', hL'⟩ : ∃ L', L.map dAcc = L' := ⟨_, rfl⟩
      obtain ⟨j, hj⟩ : ∃ n : Int, (L'.length : Int) = n := ⟨_, rfl⟩
      have hjL : (L.length : Int) = j := by rw [← hj, ← hL']; simp
      have hs2 := hx.2 L (List.mem_of_getElem? hL)
      have hXt : X[z.toNat]? = some (.list 2 L') := by rw [← hX, List.getElem?_map, hL, ← hL']; rfl
      obtain ⟨j1, hj1⟩ : ∃ z1, j - 1 = z1 := ⟨_, rfl⟩
      obtain ⟨q, hq⟩ : ∃ m, max j1 0 = m := ⟨_, rfl⟩
      have hmax : ∀ A : Ar, A = Ar.std → A.zmax j1 0 = q := fun A hA => by subst hA; rw [← hq]; simp only [Ar.std]; split <;> omega
      rw [List.getD_eq_getElem?_getD, hL] at hprz
      simp only [Option.getD_some] at hprz
      repeat refine AWp.seq ?_
      refine AWp.reg1 {} hT (fun A hA => by
          have f0 := ar_lt hA hz
          repeat (cbv; simp only [f0])
          cbv) (Nat.zero_le _) ?_
      try dsimp only [AExit.then, AExit.block]
      repeat refine AWp.seq ?_
      refine AWp.cond (b := true) rfl (AWp.skip ?_)
      try dsimp only [AExit.then, AExit.block]
      repeat refine AWp.seq ?_
      refine AWp.block ?_
      repeat refine AWp.seq ?_
      refine AWp.reg1 {} hT (fun A hA => by
          have f0 := ar_get hA hCz
          have f1 := ar_le hA h0
          repeat (cbv; simp only [f0, f1])
          cbv) (Nat.zero_le _) ?_
      try dsimp only [AExit.then, AExit.block]
      by_cases hkq : k = q
      · rw [show decide (r.length = L.length - 1) = true by simp; omega] at hprz
        repeat refine AWp.seq ?_
        refine AWp.reg1 {} hT (fun A hA => by
            have f0 := ar_len hA R k hk
            have f1 := ar_get hA hXt
            have f2 := ar_le hA h0
            have f3 := ar_len hA L' j hj
            have f4 := ar_sub hA j 1 j1 hj1 (by omega) (by omega)
            have f5 := hmax A hA
            have f6 := ar_eq hA hkq
            repeat (cbv; simp only [f0, f1, f2, f3, f4, f5, f6])
            cbv) (Nat.zero_le _) ?_
        try dsimp only [AExit.then, AExit.block]
        repeat refine AWp.seq ?_
        refine AWp.cond (b := false) rfl (AWp.skip ?_)
        try dsimp only [AExit.then, AExit.block]
        repeat refine AWp.seq ?_
        refine AWp.reg1 {} hT (fun A hA => by
            have f0 := ar_len hA R k hk
            repeat (cbv; simp only [f0])
            cbv) (Nat.zero_le _) ?_
        try dsimp only [AExit.then, AExit.block]
        refine AWp.block (AWp.loopInv (ι := Int) (fun y => 0 ≤ y ∧ y ≤ k ∧ ∀ v ∈ r.take y.toNat, in19 v = true) (fun y => (k - y).toNat) [0, 1, 14, 15, 16, 31, 32, 33]
          (fun y => { env := [(0, .d (.list 1 X)), (1, .d (.list 1 C)), (14, .d (.list 1 C)), (15, AI n), (16, AI z), (31, .d (.list 1 R)), (32, AI k), (33, AI y)], heap := [], n := 45 }) 0 (by cbv) ⟨Int.le_refl _, by omega, by simp⟩ ?_)
        rintro y ⟨g0, g1, g2⟩
        by_cases hy : y < k
        · obtain ⟨v, hv⟩ : ∃ s, r[y.toNat]? = some s := ⟨_, List.getElem?_eq_getElem (by omega)⟩
          have hRy : R[y.toNat]? = some (I v) := by rw [← hR, List.getElem?_map, hv]; rfl
          obtain ⟨y1, hy1⟩ : ∃ z1, y + 1 = z1 := ⟨_, rfl⟩
          have hvm := List.mem_of_getElem? hv
          have hnv : in19 v = false → pr z.toNat = false := fun h => by
            rw [hprz, List.all_eq_false.2 ⟨v, hvm, by rw [h]; decide⟩]; rfl
          repeat refine AWp.seq ?_
          refine AWp.reg1 {} hT (fun A hA => by
              have f0 := ar_lt hA hy
              repeat (cbv; simp only [f0])
              cbv) (Nat.zero_le _) ?_
          try dsimp only [AExit.then, AExit.block]
          repeat refine AWp.seq ?_
          refine AWp.cond (b := true) rfl (AWp.skip ?_)
          try dsimp only [AExit.then, AExit.block]
          repeat refine AWp.seq ?_
          refine AWp.block ?_
          repeat refine AWp.seq ?_
          refine AWp.reg1 {} hT (fun A hA => by
              have f0 := ar_get hA hRy
              have f1 := ar_le hA g0
              repeat (cbv; simp only [f0, f1])
              cbv) (Nat.zero_le _) ?_
          try dsimp only [AExit.then, AExit.block]
          by_cases v1 : v < 1
          · repeat refine AWp.seq ?_
            refine AWp.reg1 {} hT (fun A hA => by
                have f0 := ar_lt hA v1
                repeat (cbv; simp only [f0])
                cbv) (Nat.zero_le _) ?_
            try dsimp only [AExit.then, AExit.block]
            repeat refine AWp.seq ?_
            refine AWp.cond (b := true) rfl ?_
            rw [if_pos rfl]
            repeat refine AWp.seq ?_
            refine AWp.reg1 {} hT (fun A hA => by cbv) (Nat.zero_le _) ?_
            try dsimp only [AExit.then, AExit.block]
            obtain rfl := hno' (hnv (by unfold in19; simp; omega))
            repeat refine AWp.seq ?_
            refine AWp.ret ⟨?_, rfl, rfl, Nat.zero_le _, _, rfl⟩
            rfl
          · by_cases v9 : 9 < v
            · repeat refine AWp.seq ?_
              refine AWp.reg1 {} hT (fun A hA => by
                  have f0 := ar_nlt hA v1
                  have f1 := ar_lt hA v9
                  repeat (cbv; simp only [f0, f1])
                  cbv) (Nat.zero_le _) ?_
              try dsimp only [AExit.then, AExit.block]
              repeat refine AWp.seq ?_
              refine AWp.cond (b := true) rfl ?_
              rw [if_pos rfl]
              repeat refine AWp.seq ?_
              refine AWp.reg1 {} hT (fun A hA => by cbv) (Nat.zero_le _) ?_
              try dsimp only [AExit.then, AExit.block]
              obtain rfl := hno' (hnv (by unfold in19; simp; omega))
              repeat refine AWp.seq ?_
              refine AWp.ret ⟨?_, rfl, rfl, Nat.zero_le _, _, rfl⟩
              rfl
            · repeat refine AWp.seq ?_
              refine AWp.reg1 {} hT (fun A hA => by
                  have f0 := ar_nlt hA v1
                  have f1 := ar_nlt hA v9
                  repeat (cbv; simp only [f0, f1])
                  cbv) (Nat.zero_le _) ?_
              try dsimp only [AExit.then, AExit.block]
              repeat refine AWp.seq ?_
              refine AWp.cond (b := false) rfl (AWp.skip ?_)
              try dsimp only [AExit.then, AExit.block]
              repeat refine AWp.seq ?_
              refine AWp.reg1 {} hT (fun A hA => by
                  have f0 := ar_add hA y 1 y1 hy1 (by omega) (by omega)
                  repeat (cbv; simp only [f0])
                  cbv) (Nat.zero_le _) ?_
              try dsimp only [AExit.then, AExit.block]
              refine ⟨y1, ⟨by omega, by omega, fun w hw => ?_⟩, by omega, by cbv⟩
              rw [show y1.toNat = y.toNat + 1 by omega, List.take_add_one, hv] at hw
              simp only [Option.toList_some, List.mem_append, List.mem_singleton] at hw
              rcases hw with hw | rfl
              · exact g2 w hw
              · unfold in19; simp; omega
        · rw [List.take_of_length_le (by omega)] at g2
          repeat refine AWp.seq ?_
          refine AWp.reg1 {} hT (fun A hA => by
              have f0 := ar_nlt hA hy
              repeat (cbv; simp only [f0])
              cbv) (Nat.zero_le _) ?_
          try dsimp only [AExit.then, AExit.block]
          repeat refine AWp.seq ?_
          refine AWp.cond (b := false) rfl (AWp.exit ?_)
          try dsimp only [AExit.then, AExit.block]
          rw [if_pos rfl]
          repeat refine AWp.seq ?_
          refine AWp.reg1 {} hT (fun A hA => by
              have f0 := ar_add hA z 1 z1 hz1 (by omega) (by omega)
              repeat (cbv; simp only [f0])
              cbv) (Nat.zero_le _) ?_
          try dsimp only [AExit.then, AExit.block]
          refine ⟨z1, ⟨by omega, by omega, fun i hi => ?_⟩, by omega, by cbv⟩
          rcases Nat.lt_or_ge i z.toNat with h | h
          · exact h2 i h
          · rw [show i = z.toNat by omega, hprz, List.all_eq_true.2 g2]; rfl
      · rw [show decide (r.length = L.length - 1) = false by simp; omega] at hprz
        repeat refine AWp.seq ?_
        refine AWp.reg1 {} hT (fun A hA => by
            have f0 := ar_len hA R k hk
            have f1 := ar_get hA hXt
            have f2 := ar_le hA h0
            have f3 := ar_len hA L' j hj
            have f4 := ar_sub hA j 1 j1 hj1 (by omega) (by omega)
            have f5 := hmax A hA
            have f6 := ar_ne hA hkq
            repeat (cbv; simp only [f0, f1, f2, f3, f4, f5, f6])
            cbv) (Nat.zero_le _) ?_
        try dsimp only [AExit.then, AExit.block]
        repeat refine AWp.seq ?_
        refine AWp.cond (b := true) rfl ?_
        rw [if_pos rfl]
        repeat refine AWp.seq ?_
        refine AWp.reg1 {} hT (fun A hA => by cbv) (Nat.zero_le _) ?_
        try dsimp only [AExit.then, AExit.block]
        obtain rfl := hno' (by rw [hprz]; rfl)
        repeat refine AWp.seq ?_
        refine AWp.ret ⟨?_, rfl, rfl, Nat.zero_le _, _, rfl⟩
        rfl
    · rw [List.all_eq_true.2 (fun i hi => h2 i (by have := List.mem_range.1 hi; omega))] at hF
      subst hF
      repeat refine AWp.seq ?_
      refine AWp.reg1 {} hT (fun A hA => by
          have f0 := ar_nlt hA hz
          repeat (cbv; simp only [f0])
          cbv) (Nat.zero_le _) ?_
      try dsimp only [AExit.then, AExit.block]
      repeat refine AWp.seq ?_
      refine AWp.cond (b := false) rfl (AWp.exit ?_)
      try dsimp only [AExit.then, AExit.block]
      rw [if_pos rfl]
      repeat refine AWp.seq ?_
      refine AWp.reg1 {} hT (fun A hA => by cbv) (Nat.zero_le _) ?_
      try dsimp only [AExit.then, AExit.block]
      repeat refine AWp.seq ?_
      refine AWp.ret ⟨?_, rfl, rfl, Nat.zero_le _, _, rfl⟩
      rfl
  · rw [show decide (c.length = x.length) = false by simp; omega, Bool.and_false] at hF
    subst hF
    refine ACall.enter hT (fn := Try.f50) Try.func50 rfl (by decide) (by simp [Try.f50]) rfl rfl rfl rfl (Nat.le_refl _) ?_
    repeat refine AWp.seq ?_
    refine AWp.reg1 {} hT (fun A hA => by cbv) (Nat.zero_le _) ?_
    try dsimp only [AExit.then, AExit.block]
    repeat refine AWp.seq ?_
    refine AWp.reg1 {} hT (fun A hA => by
        have f0 := ar_len hA C n hn
        have f1 := ar_len hA X m hm
        have f2 := ar_ne hA hnm
        repeat (cbv; simp only [f0, f1, f2])
        cbv) (Nat.zero_le _) ?_
    try dsimp only [AExit.then, AExit.block]
    repeat refine AWp.seq ?_
    refine AWp.cond (b := true) rfl ?_
    rw [if_pos rfl]
    repeat refine AWp.seq ?_
    refine AWp.reg1 {} hT (fun A hA => by cbv) (Nat.zero_le _) ?_
    try dsimp only [AExit.then, AExit.block]
    repeat refine AWp.seq ?_
    refine AWp.ret ⟨?_, rfl, rfl, Nat.zero_le _, _, rfl⟩
    rfl

theorem fencedR_ok (x : List (List Acc)) (l : List Fen) (hx : Big x) (hl : l.length ≤ 1000000000) : ACall P 89 [.d (dX x), .d (.list 2 (l.map dFen))] [] (AI (fencedT x l).2) [] := by
  have cv := validR_ok x hx
  unfold fencedT
  cases hv : valid x with
  | false =>
    rw [hv] at cv
    simp only [Bool.false_eq_true, if_false]
    obtain ⟨X, hX⟩ : ∃ X, dX x = X := ⟨_, rfl⟩
    obtain ⟨L, hL⟩ : ∃ X, l.map dFen = X := ⟨_, rfl⟩
    rw [hX] at cv ⊢
    rw [hL]
    refine ACall.enter hT (fn := Try.f89) Try.func89 rfl (by decide) (by simp [Try.f89]) rfl rfl rfl rfl (Nat.le_refl _) ?_
    repeat refine AWp.seq ?_
    refine AWp.reg1 {} hT (fun A hA => by cbv) (Nat.zero_le _) ?_
    try dsimp only [AExit.then, AExit.block]
    repeat refine AWp.seq ?_
    refine AWp.region ?_
    refine AOps.stepCall hT (an := {}) (fun A hA => by cbv) (Nat.zero_le _) rfl (.inr rfl) rfl rfl rfl (Nat.le_of_ble_eq_true rfl) rfl rfl (cv) ?_
    refine AOps.done hT (an := {}) (fun A hA => by cbv) (Nat.zero_le _) ?_
    try dsimp only [AExit.then, AExit.block]
    repeat refine AWp.seq ?_
    refine AWp.cond (b := true) rfl ?_
    rw [if_pos rfl]
    repeat refine AWp.seq ?_
    refine AWp.reg1 {} hT (fun A hA => by cbv) (Nat.zero_le _) ?_
    try dsimp only [AExit.then, AExit.block]
    repeat refine AWp.seq ?_
    refine AWp.ret ⟨?_, rfl, rfl, Nat.zero_le _, _, rfl⟩
    rfl
  | true =>
    have ca := areFences_ok x l (valid_small hv) hl
    rw [hv] at cv
    simp only [if_true]
    cases hF : fencesB x l with
    | false =>
      rw [hF] at ca
      simp only [Bool.false_eq_true, if_false]
      obtain ⟨X, hX⟩ : ∃ X, dX x = X := ⟨_, rfl⟩
      obtain ⟨L, hL⟩ : ∃ X, l.map dFen = X := ⟨_, rfl⟩
      rw [hX] at cv ca ⊢
      rw [hL] at ca ⊢
      refine ACall.enter hT (fn := Try.f89) Try.func89 rfl (by decide) (by simp [Try.f89]) rfl rfl rfl rfl (Nat.le_refl _) ?_
      repeat refine AWp.seq ?_
      refine AWp.reg1 {} hT (fun A hA => by cbv) (Nat.zero_le _) ?_
      try dsimp only [AExit.then, AExit.block]
      repeat refine AWp.seq ?_
      refine AWp.region ?_
      refine AOps.stepCall hT (an := {}) (fun A hA => by cbv) (Nat.zero_le _) rfl (.inr rfl) rfl rfl rfl (Nat.le_of_ble_eq_true rfl) rfl rfl (cv) ?_
      refine AOps.done hT (an := {}) (fun A hA => by cbv) (Nat.zero_le _) ?_
      try dsimp only [AExit.then, AExit.block]
      repeat refine AWp.seq ?_
      refine AWp.cond (b := false) rfl (AWp.skip ?_)
      try dsimp only [AExit.then, AExit.block]
      repeat refine AWp.seq ?_
      refine AWp.region ?_
      refine AOps.stepCall hT (an := {}) (fun A hA => by cbv) (Nat.zero_le _) rfl (.inr rfl) rfl rfl rfl (Nat.le_of_ble_eq_true rfl) rfl rfl (ca) ?_
      refine AOps.done hT (an := {}) (fun A hA => by cbv) (Nat.zero_le _) ?_
      try dsimp only [AExit.then, AExit.block]
      repeat refine AWp.seq ?_
      refine AWp.cond (b := true) rfl ?_
      rw [if_pos rfl]
      repeat refine AWp.seq ?_
      refine AWp.reg1 {} hT (fun A hA => by cbv) (Nat.zero_le _) ?_
      try dsimp only [AExit.then, AExit.block]
      repeat refine AWp.seq ?_
      refine AWp.ret ⟨?_, rfl, rfl, Nat.zero_le _, _, rfl⟩
      rfl
    | true =>
      rw [hF] at ca
      simp only [if_true]
      obtain ⟨X, hX⟩ : ∃ X, dX x = X := ⟨_, rfl⟩
      obtain ⟨L, hL⟩ : ∃ X, l.map dFen = X := ⟨_, rfl⟩
      rw [hX] at cv ca ⊢
      rw [hL] at ca ⊢
      refine ACall.enter hT (fn := Try.f89) Try.func89 rfl (by decide) (by simp [Try.f89]) rfl rfl rfl rfl (Nat.le_refl _) ?_
      repeat refine AWp.seq ?_
      refine AWp.reg1 {} hT (fun A hA => by cbv) (Nat.zero_le _) ?_
      try dsimp only [AExit.then, AExit.block]
      repeat refine AWp.seq ?_
      refine AWp.region ?_
      refine AOps.stepCall hT (an := {}) (fun A hA => by cbv) (Nat.zero_le _) rfl (.inr rfl) rfl rfl rfl (Nat.le_of_ble_eq_true rfl) rfl rfl (cv) ?_
      refine AOps.done hT (an := {}) (fun A hA => by cbv) (Nat.zero_le _) ?_
      try dsimp only [AExit.then, AExit.block]
      repeat refine AWp.seq ?_
      refine AWp.cond (b := false) rfl (AWp.skip ?_)
      try dsimp only [AExit.then, AExit.block]
      repeat refine AWp.seq ?_
      refine AWp.region ?_
      refine AOps.stepCall hT (an := {}) (fun A hA => by cbv) (Nat.zero_le _) rfl (.inr rfl) rfl rfl rfl (Nat.le_of_ble_eq_true rfl) rfl rfl (ca) ?_
      refine AOps.done hT (an := {}) (fun A hA => by cbv) (Nat.zero_le _) ?_
      try dsimp only [AExit.then, AExit.block]
      repeat refine AWp.seq ?_
      refine AWp.cond (b := false) rfl (AWp.skip ?_)
      try dsimp only [AExit.then, AExit.block]
      repeat refine AWp.seq ?_
      refine AWp.reg1 {} hT (fun A hA => by cbv) (Nat.zero_le _) ?_
      try dsimp only [AExit.then, AExit.block]
      repeat refine AWp.seq ?_
      refine AWp.ret ⟨?_, rfl, rfl, Nat.zero_le _, _, rfl⟩
      rfl

theorem heldR_ok (l : List Fen) (s : Sta) (hl : l.length ≤ 1000000000) : ACall P 90 [.d (.list 2 (l.map dFen)), .d (dSta s)] [] (AB (heldF l s)) [] := by
  have ch := fun f => holdsR_ok f s
  obtain ⟨F, hF⟩ : ∃ F, heldF l s = F := ⟨_, rfl⟩
  rw [hF]
  unfold heldF at hF
  obtain ⟨L, hL⟩ : ∃ X, l.map dFen = X := ⟨_, rfl⟩
  obtain ⟨n, hn⟩ : ∃ n : Int, (L.length : Int) = n := ⟨_, rfl⟩
  have hln : (l.length : Int) = n := by rw [← hn, ← hL]; simp
  rw [hL]
  obtain ⟨p, hp⟩ : ∃ p : Fen → Bool, (fun f => holdsF f s) = p := ⟨_, rfl⟩
  have hpf : ∀ f, holdsF f s = p f := fun f => by rw [← hp]
  rw [hp] at hF
  simp only [hpf] at ch
  obtain ⟨t, a, b⟩ := s
  unfold dSta at *
  dsimp only at *
  refine ACall.enter hT (fn := Try.f90) Try.func90 rfl (by decide) (by simp [Try.f90]) rfl rfl rfl rfl (Nat.le_refl _) ?_
  repeat refine AWp.seq ?_
  refine AWp.reg1 {} hT (fun A hA => by cbv) (Nat.zero_le _) ?_
  try dsimp only [AExit.then, AExit.block]
  repeat refine AWp.seq ?_
  refine AWp.reg1 {} hT (fun A hA => by
      have f0 := ar_len hA L n hn
      repeat (cbv; simp only [f0])
      cbv) (Nat.zero_le _) ?_
  try dsimp only [AExit.then, AExit.block]
  refine AWp.block (AWp.loopInv (ι := Int) (fun z => 0 ≤ z ∧ z ≤ n ∧ ∀ f ∈ l.take z.toNat, p f = false) (fun z => (n - z).toNat) [3, 7, 8, 9]
    (fun z => { env := [(3, .lbox [AI t, AI a, AI b]), (7, .d (.list 2 L)), (8, AI n), (9, AI z)], heap := [], n := 17 }) 0 (by cbv) ⟨Int.le_refl _, by omega, by simp⟩ ?_)
  rintro z ⟨h0, h1, h2⟩
  by_cases hz : z < n
  · obtain ⟨f, hf⟩ : ∃ s, l[z.toNat]? = some s := ⟨_, List.getElem?_eq_getElem (by omega)⟩
    have hLz : L[z.toNat]? = some (dFen f) := by rw [← hL, List.getElem?_map, hf]; rfl
    have c1 := ch f
    obtain ⟨r, hr⟩ : ∃ r, p f = r := ⟨_, rfl⟩
    rw [hr] at c1
    obtain ⟨z1, hz1⟩ : ∃ z1, z + 1 = z1 := ⟨_, rfl⟩
    have hstep : r = false → ∀ f ∈ l.take z1.toNat, p f = false := fun h f hf' => by
      rw [show z1.toNat = z.toNat + 1 by omega, List.take_add_one, hf] at hf'
      simp only [Option.toList_some, List.mem_append, List.mem_singleton] at hf'
      rcases hf' with hf' | rfl
      · exact h2 f hf'
      · rw [hr, h]
    have hyes : r = true → F = true := fun h => by rw [← hF, List.any_eq_true]; exact ⟨f, List.mem_of_getElem? hf, by rw [hr, h]⟩
    obtain ⟨u, g⟩ := f
    unfold dFen at hLz c1
    dsimp only at hLz c1
    repeat refine AWp.seq ?_
    refine AWp.reg1 {} hT (fun A hA => by
        have f0 := ar_lt hA hz
        repeat (cbv; simp only [f0])
        cbv) (Nat.zero_le _) ?_
    try dsimp only [AExit.then, AExit.block]
    repeat refine AWp.seq ?_
    refine AWp.cond (b := true) rfl (AWp.skip ?_)
    try dsimp only [AExit.then, AExit.block]
    repeat refine AWp.seq ?_
    refine AWp.block ?_
    repeat refine AWp.seq ?_
    refine AWp.reg1 {} hT (fun A hA => by
        have f0 := ar_get hA hLz
        have f1 := ar_le hA h0
        repeat (cbv; simp only [f0, f1])
        cbv) (Nat.zero_le _) ?_
    try dsimp only [AExit.then, AExit.block]
    repeat refine AWp.seq ?_
    refine AWp.region ?_
    refine AOps.stepCall hT (an := {}) (fun A hA => by cbv) (Nat.zero_le _) rfl (.inr rfl) rfl rfl rfl (Nat.le_of_ble_eq_true rfl) rfl rfl (c1) ?_
    refine AOps.done hT (an := {}) (fun A hA => by cbv) (Nat.zero_le _) ?_
    try dsimp only [AExit.then, AExit.block]
    cases r with
    | true =>
      obtain rfl := hyes rfl
      repeat refine AWp.seq ?_
      refine AWp.cond (b := true) rfl ?_
      rw [if_pos rfl]
      repeat refine AWp.seq ?_
      refine AWp.reg1 {} hT (fun A hA => by cbv) (Nat.zero_le _) ?_
      try dsimp only [AExit.then, AExit.block]
      repeat refine AWp.seq ?_
      refine AWp.ret ⟨?_, rfl, rfl, Nat.zero_le _, _, rfl⟩
      rfl
    | false =>
      repeat refine AWp.seq ?_
      refine AWp.cond (b := false) rfl (AWp.skip ?_)
      try dsimp only [AExit.then, AExit.block]
      repeat refine AWp.seq ?_
      refine AWp.reg1 {} hT (fun A hA => by
          have f0 := ar_add hA z 1 z1 hz1 (by omega) (by omega)
          repeat (cbv; simp only [f0])
          cbv) (Nat.zero_le _) ?_
      try dsimp only [AExit.then, AExit.block]
      exact ⟨z1, ⟨by omega, by omega, hstep rfl⟩, by omega, by cbv⟩
  · rw [List.take_of_length_le (by omega)] at h2
    rw [List.any_eq_false.2 (fun f hf => by rw [h2 f hf]; decide)] at hF
    subst hF
    repeat refine AWp.seq ?_
    refine AWp.reg1 {} hT (fun A hA => by
        have f0 := ar_nlt hA hz
        repeat (cbv; simp only [f0])
        cbv) (Nat.zero_le _) ?_
    try dsimp only [AExit.then, AExit.block]
    repeat refine AWp.seq ?_
    refine AWp.cond (b := false) rfl (AWp.exit ?_)
    try dsimp only [AExit.then, AExit.block]
    rw [if_pos rfl]
    repeat refine AWp.seq ?_
    refine AWp.reg1 {} hT (fun A hA => by cbv) (Nat.zero_le _) ?_
    try dsimp only [AExit.then, AExit.block]
    repeat refine AWp.seq ?_
    refine AWp.ret ⟨?_, rfl, rfl, Nat.zero_le _, _, rfl⟩
    rfl

theorem enoughR_ok (l : List Fen) (q : List Sta) (hl : l.length ≤ 1000000000) (hq : q.length ≤ 1000000000) : ACall P 92 [.d (.list 2 (l.map dFen)), .d (.list 3 (q.map dSta))] [] (AB (enoughF l q)) [] := by
  have ch := fun s => heldR_ok l s hl
  obtain ⟨F, hF⟩ : ∃ F, enoughF l q = F := ⟨_, rfl⟩
  rw [hF]
  unfold enoughF at hF
  obtain ⟨L, hL⟩ : ∃ X, l.map dFen = X := ⟨_, rfl⟩
  obtain ⟨Q, hQ⟩ : ∃ X, q.map dSta = X := ⟨_, rfl⟩
  obtain ⟨n, hn⟩ : ∃ n : Int, (Q.length : Int) = n := ⟨_, rfl⟩
  have hln : (q.length : Int) = n := by rw [← hn, ← hQ]; simp
  rw [hL, hQ]
  simp only [hL] at ch
  obtain ⟨p, hp⟩ : ∃ p : Sta → Bool, heldF l = p := ⟨_, rfl⟩
  rw [hp] at hF ch
  refine ACall.enter hT (fn := Try.f92) Try.func92 rfl (by decide) (by simp [Try.f92]) rfl rfl rfl rfl (Nat.le_refl _) ?_
  repeat refine AWp.seq ?_
  refine AWp.reg1 {} hT (fun A hA => by cbv) (Nat.zero_le _) ?_
  try dsimp only [AExit.then, AExit.block]
  repeat refine AWp.seq ?_
  refine AWp.reg1 {} hT (fun A hA => by
      have f0 := ar_len hA Q n hn
      repeat (cbv; simp only [f0])
      cbv) (Nat.zero_le _) ?_
  try dsimp only [AExit.then, AExit.block]
  refine AWp.block (AWp.loopInv (ι := Int) (fun z => 0 ≤ z ∧ z ≤ n ∧ ∀ f ∈ q.take z.toNat, p f = true) (fun z => (n - z).toNat) [0, 7, 8, 9]
    (fun z => { env := [(0, .d (.list 2 L)), (7, .d (.list 3 Q)), (8, AI n), (9, AI z)], heap := [], n := 18 }) 0 (by cbv) ⟨Int.le_refl _, by omega, by simp⟩ ?_)
  rintro z ⟨h0, h1, h2⟩
  by_cases hz : z < n
  · obtain ⟨f, hf⟩ : ∃ s, q[z.toNat]? = some s := ⟨_, List.getElem?_eq_getElem (by omega)⟩
    have hLz : Q[z.toNat]? = some (dSta f) := by rw [← hQ, List.getElem?_map, hf]; rfl
    have c1 := ch f
    obtain ⟨r, hr⟩ : ∃ r, p f = r := ⟨_, rfl⟩
    rw [hr] at c1
    obtain ⟨z1, hz1⟩ : ∃ z1, z + 1 = z1 := ⟨_, rfl⟩
    have hstep : r = true → ∀ f ∈ q.take z1.toNat, p f = true := fun h f hf' => by
      rw [show z1.toNat = z.toNat + 1 by omega, List.take_add_one, hf] at hf'
      simp only [Option.toList_some, List.mem_append, List.mem_singleton] at hf'
      rcases hf' with hf' | rfl
      · exact h2 f hf'
      · rw [hr, h]
    have hyes : r = false → F = false := fun h => by rw [← hF, List.all_eq_false]; exact ⟨f, List.mem_of_getElem? hf, by rw [hr, h]; decide⟩
    obtain ⟨t, a, b⟩ := f
    unfold dSta at hLz c1
    dsimp only at hLz c1
    repeat refine AWp.seq ?_
    refine AWp.reg1 {} hT (fun A hA => by
        have f0 := ar_lt hA hz
        repeat (cbv; simp only [f0])
        cbv) (Nat.zero_le _) ?_
    try dsimp only [AExit.then, AExit.block]
    repeat refine AWp.seq ?_
    refine AWp.cond (b := true) rfl (AWp.skip ?_)
    try dsimp only [AExit.then, AExit.block]
    repeat refine AWp.seq ?_
    refine AWp.block ?_
    repeat refine AWp.seq ?_
    refine AWp.reg1 {} hT (fun A hA => by
        have f0 := ar_get hA hLz
        have f1 := ar_le hA h0
        repeat (cbv; simp only [f0, f1])
        cbv) (Nat.zero_le _) ?_
    try dsimp only [AExit.then, AExit.block]
    repeat refine AWp.seq ?_
    refine AWp.region ?_
    refine AOps.stepCall hT (an := {}) (fun A hA => by cbv) (Nat.zero_le _) rfl (.inr rfl) rfl rfl rfl (Nat.le_of_ble_eq_true rfl) rfl rfl (c1) ?_
    refine AOps.done hT (an := {}) (fun A hA => by cbv) (Nat.zero_le _) ?_
    try dsimp only [AExit.then, AExit.block]
    cases r with
    | false =>
      obtain rfl := hyes rfl
      repeat refine AWp.seq ?_
      refine AWp.cond (b := true) rfl ?_
      rw [if_pos rfl]
      repeat refine AWp.seq ?_
      refine AWp.reg1 {} hT (fun A hA => by cbv) (Nat.zero_le _) ?_
      try dsimp only [AExit.then, AExit.block]
      repeat refine AWp.seq ?_
      refine AWp.ret ⟨?_, rfl, rfl, Nat.zero_le _, _, rfl⟩
      rfl
    | true =>
      repeat refine AWp.seq ?_
      refine AWp.cond (b := false) rfl (AWp.skip ?_)
      try dsimp only [AExit.then, AExit.block]
      repeat refine AWp.seq ?_
      refine AWp.reg1 {} hT (fun A hA => by
          have f0 := ar_add hA z 1 z1 hz1 (by omega) (by omega)
          repeat (cbv; simp only [f0])
          cbv) (Nat.zero_le _) ?_
      try dsimp only [AExit.then, AExit.block]
      exact ⟨z1, ⟨by omega, by omega, hstep rfl⟩, by omega, by cbv⟩
  · rw [List.take_of_length_le (by omega)] at h2
    rw [List.all_eq_true.2 h2] at hF
    subst hF
    repeat refine AWp.seq ?_
    refine AWp.reg1 {} hT (fun A hA => by
        have f0 := ar_nlt hA hz
        repeat (cbv; simp only [f0])
        cbv) (Nat.zero_le _) ?_
    try dsimp only [AExit.then, AExit.block]
    repeat refine AWp.seq ?_
    refine AWp.cond (b := false) rfl (AWp.exit ?_)
    try dsimp only [AExit.then, AExit.block]
    rw [if_pos rfl]
    repeat refine AWp.seq ?_
    refine AWp.reg1 {} hT (fun A hA => by cbv) (Nat.zero_le _) ?_
    try dsimp only [AExit.then, AExit.block]
    repeat refine AWp.seq ?_
    refine AWp.ret ⟨?_, rfl, rfl, Nat.zero_le _, _, rfl⟩
    rfl

theorem HeldR_ok (x : List (List Acc)) (l : List Fen) (hx : Big x) (hl : l.length ≤ 1000000000) :
    ACall P 39 [.d (dX x), .d (.list 2 (l.map dFen))] [] (.tuple [.d (.list 3 (if (fencedT x l).2 = 0 then ((pairsL x).filter (heldF (fencedT x l).1)).map dSta else [])), AI (fencedT x l).2]) [] := by
  have cf := fencedR_ok x l hx hl
  have hval : (fencedT x l).2 = 0 → _ := fencedT_ok
  obtain ⟨⟨out, e⟩, hT'⟩ : ∃ t, fencedT x l = t := ⟨_, rfl⟩
  rw [hT'] at cf hval ⊢
  dsimp only at cf hval ⊢
  by_cases he : e = 0
  · obtain ⟨hv, hFl, rfl⟩ := hval he
    rw [if_pos he]
    subst he
    have h48 := stations_48 hv
    have hpl : (pairsL x).length ≤ 48 := Nat.le_trans (List.length_filter_le _ _) h48
    have cp := PairsR_ok x hx (fun h => valid_small h)
    rw [pairsR_eq, hv] at cp
    simp only [if_true] at cp
    have ch := fun s => heldR_ok out s hl
    obtain ⟨q, hq⟩ : ∃ pl, pairsL x = pl := ⟨_, rfl⟩
    rw [hq] at cp hpl ⊢
    obtain ⟨p, hp⟩ : ∃ p, heldF out = p := ⟨_, rfl⟩
    rw [hp] at ch ⊢
    obtain ⟨X, hX⟩ : ∃ X, dX x = X := ⟨_, rfl⟩
    obtain ⟨L, hL⟩ : ∃ X, out.map dFen = X := ⟨_, rfl⟩
    obtain ⟨Q, hQ⟩ : ∃ X, q.map dSta = X := ⟨_, rfl⟩
    obtain ⟨n, hn⟩ : ∃ n : Int, (Q.length : Int) = n := ⟨_, rfl⟩
    have hln : (q.length : Int) = n := by rw [← hn, ← hQ]; simp
    rw [hX] at cf cp ⊢
    rw [hL] at cf ⊢
    simp only [hL] at ch
    rw [hQ] at cp
    refine ACall.enter hT (fn := Try.f39) Try.func39 rfl (by decide) (by simp [Try.f39]) rfl rfl rfl rfl (Nat.le_refl _) ?_
    repeat refine AWp.seq ?_
    refine AWp.reg1 {} hT (fun A hA => by cbv) (Nat.zero_le _) ?_
    try dsimp only [AExit.then, AExit.block]
    repeat refine AWp.seq ?_
    refine AWp.region ?_
    refine AOps.stepCall hT (an := {}) (fun A hA => by cbv) (Nat.zero_le _) rfl (.inr rfl) rfl rfl rfl (Nat.le_of_ble_eq_true rfl) rfl rfl (cf) ?_
    refine AOps.done hT (an := {}) (fun A hA => by cbv) (Nat.zero_le _) ?_
    try dsimp only [AExit.then, AExit.block]
    repeat refine AWp.seq ?_
    refine AWp.reg1 {} hT (fun A hA => by
        have f0 := ar_eq hA (rfl : (0 : Int) = 0)
        repeat (cbv; simp only [f0])
        cbv) (Nat.zero_le _) ?_
    try dsimp only [AExit.then, AExit.block]
    repeat refine AWp.seq ?_
    refine AWp.cond (b := false) rfl (AWp.skip ?_)
    try dsimp only [AExit.then, AExit.block]
    repeat refine AWp.seq ?_
    refine AWp.reg1 {tk := [7]} hT (fun A hA => by cbv) (Nat.zero_le _) ?_
    try dsimp only [AExit.then, AExit.block]
    repeat refine AWp.seq ?_
    refine AWp.region ?_
    refine AOps.stepCall hT (an := {}) (fun A hA => by cbv) (Nat.zero_le _) rfl (.inr rfl) rfl rfl rfl (Nat.le_of_ble_eq_true rfl) rfl rfl (cp) ?_
    refine AOps.done hT (an := {}) (fun A hA => by cbv) (Nat.zero_le _) ?_
    try dsimp only [AExit.then, AExit.block]
    repeat refine AWp.seq ?_
    refine AWp.reg1 {} hT (fun A hA => by
        have f0 := ar_len hA Q n hn
        repeat (cbv; simp only [f0])
        cbv) (Nat.zero_le _) ?_
    try dsimp only [AExit.then, AExit.block]
    refine AWp.block (AWp.loopInv (ι := Int × List D) (fun p' => 0 ≤ p'.1 ∧ p'.1 ≤ n ∧ p'.2 = ((q.take p'.1.toNat).filter p).map dSta ∧ p'.2.length ≤ p'.1) (fun p => (n - p.1).toNat) [1, 7, 23, 24, 25]
      (fun p => { env := [(1, .d (.list 2 L)), (7, .own 3 p.2), (23, .d (.list 3 Q)), (24, AI n), (25, AI p.1)], heap := [], n := 38 }) (0, []) (by cbv) ⟨Int.le_refl _, by dsimp only; omega, by simp, by simp⟩ ?_)
    rintro ⟨z, O⟩ ⟨h0, h1, h2, h3⟩
    dsimp only at *
    by_cases hz : z < n
    · obtain ⟨f, hf⟩ : ∃ s, q[z.toNat]? = some s := ⟨_, List.getElem?_eq_getElem (by omega)⟩
      have hLz : Q[z.toNat]? = some (dSta f) := by rw [← hQ, List.getElem?_map, hf]; rfl
      have c1 := ch f
      obtain ⟨r, hr⟩ : ∃ r, p f = r := ⟨_, rfl⟩
      rw [hr] at c1
      obtain ⟨z1, hz1⟩ : ∃ z1, z + 1 = z1 := ⟨_, rfl⟩
      have hstep : ((q.take z1.toNat).filter p).map dSta = O ++ if r then [dSta f] else [] := by
        rw [show z1.toNat = z.toNat + 1 by omega, List.take_add_one, hf, List.filter_append, List.map_append, ← h2]
        cases r <;> simp [hr]
      obtain ⟨t, a, b⟩ := f
      unfold dSta at hLz c1 hstep
      dsimp only at hLz c1 hstep
      have hfun : (fun s : Sta => D.agg [I s.1, I s.2.1, I s.2.2]) = dSta := rfl
      rw [hfun] at hstep
      obtain ⟨O1, hO1⟩ : ∃ l3, O ++ [.agg [I t, I a, I b]] = l3 := ⟨_, rfl⟩
      repeat refine AWp.seq ?_
      refine AWp.reg1 {} hT (fun A hA => by
          have f0 := ar_lt hA hz
          repeat (cbv; simp only [f0])
          cbv) (Nat.zero_le _) ?_
      try dsimp only [AExit.then, AExit.block]
      repeat refine AWp.seq ?_
      refine AWp.cond (b := true) rfl (AWp.skip ?_)
      try dsimp only [AExit.then, AExit.block]
      repeat refine AWp.seq ?_
      refine AWp.block ?_
      repeat refine AWp.seq ?_
      refine AWp.reg1 {} hT (fun A hA => by
          have f0 := ar_get hA hLz
          have f1 := ar_le hA h0
          repeat (cbv; simp only [f0, f1])
          cbv) (Nat.zero_le _) ?_
      try dsimp only [AExit.then, AExit.block]
      repeat refine AWp.seq ?_
      refine AWp.region ?_
      refine AOps.stepCall hT (an := {}) (fun A hA => by cbv) (Nat.zero_le _) rfl (.inr rfl) rfl rfl rfl (Nat.le_of_ble_eq_true rfl) rfl rfl (c1) ?_
      refine AOps.done hT (an := {}) (fun A hA => by cbv) (Nat.zero_le _) ?_
      try dsimp only [AExit.then, AExit.block]
      cases r with
      | false =>
        repeat refine AWp.seq ?_
        refine AWp.cond (b := false) rfl (AWp.skip ?_)
        try dsimp only [AExit.then, AExit.block]
        repeat refine AWp.seq ?_
        refine AWp.reg1 {} hT (fun A hA => by
            have f0 := ar_add hA z 1 z1 hz1 (by omega) (by omega)
            repeat (cbv; simp only [f0])
            cbv) (Nat.zero_le _) ?_
        try dsimp only [AExit.then, AExit.block]
        exact ⟨(z1, O), ⟨by dsimp only; omega, by dsimp only; omega, by dsimp only; rw [hstep]; simp, by dsimp only; omega⟩, by dsimp only; omega, by cbv⟩
      | true =>
        repeat refine AWp.seq ?_
        refine AWp.cond (b := true) rfl ?_
        rw [if_pos rfl]
        repeat refine AWp.seq ?_
        refine AWp.reg1 {tk := [7, 32, 35]} hT (fun A hA => by
            have f0 := ar_app hA _ _ _ hO1
            have f1 := ar_fits hA O [.agg [I t, I a, I b]] (by simp; omega)
            repeat (cbv; simp only [f0, f1])
            cbv) (Nat.zero_le _) ?_
        try dsimp only [AExit.then, AExit.block]
        repeat refine AWp.seq ?_
        refine AWp.reg1 {} hT (fun A hA => by
            have f0 := ar_add hA z 1 z1 hz1 (by omega) (by omega)
            repeat (cbv; simp only [f0])
            cbv) (Nat.zero_le _) ?_
        try dsimp only [AExit.then, AExit.block]
        exact ⟨(z1, O1), ⟨by dsimp only; omega, by dsimp only; omega, by dsimp only; rw [hstep, ← hO1]; simp, by dsimp only; rw [← hO1]; simp; omega⟩, by dsimp only; omega, by cbv⟩
    · rw [List.take_of_length_le (by omega)] at h2
      rw [← h2]
      repeat refine AWp.seq ?_
      refine AWp.reg1 {} hT (fun A hA => by
          have f0 := ar_nlt hA hz
          repeat (cbv; simp only [f0])
          cbv) (Nat.zero_le _) ?_
      try dsimp only [AExit.then, AExit.block]
      repeat refine AWp.seq ?_
      refine AWp.cond (b := false) rfl (AWp.exit ?_)
      try dsimp only [AExit.then, AExit.block]
      rw [if_pos rfl]
      repeat refine AWp.seq ?_
      refine AWp.reg1 {} hT (fun A hA => by cbv) (Nat.zero_le _) ?_
      try dsimp only [AExit.then, AExit.block]
      repeat refine AWp.seq ?_
      refine AWp.ret ⟨?_, rfl, rfl, Nat.zero_le _, _, rfl⟩
      rfl
  · rw [if_neg he]
    obtain ⟨X, hX⟩ : ∃ X, dX x = X := ⟨_, rfl⟩
    obtain ⟨L, hL⟩ : ∃ X, l.map dFen = X := ⟨_, rfl⟩
    rw [hX] at cf ⊢
    rw [hL] at cf ⊢
    refine ACall.enter hT (fn := Try.f39) Try.func39 rfl (by decide) (by simp [Try.f39]) rfl rfl rfl rfl (Nat.le_refl _) ?_
    repeat refine AWp.seq ?_
    refine AWp.reg1 {} hT (fun A hA => by cbv) (Nat.zero_le _) ?_
    try dsimp only [AExit.then, AExit.block]
    repeat refine AWp.seq ?_
    refine AWp.region ?_
    refine AOps.stepCall hT (an := {}) (fun A hA => by cbv) (Nat.zero_le _) rfl (.inr rfl) rfl rfl rfl (Nat.le_of_ble_eq_true rfl) rfl rfl (cf) ?_
    refine AOps.done hT (an := {}) (fun A hA => by cbv) (Nat.zero_le _) ?_
    try dsimp only [AExit.then, AExit.block]
    repeat refine AWp.seq ?_
    refine AWp.reg1 {} hT (fun A hA => by
        have f0 := ar_ne hA he
        repeat (cbv; simp only [f0])
        cbv) (Nat.zero_le _) ?_
    try dsimp only [AExit.then, AExit.block]
    repeat refine AWp.seq ?_
    refine AWp.cond (b := true) rfl ?_
    rw [if_pos rfl]
    repeat refine AWp.seq ?_
    refine AWp.reg1 {} hT (fun A hA => by cbv) (Nat.zero_le _) ?_
    try dsimp only [AExit.then, AExit.block]
    repeat refine AWp.seq ?_
    refine AWp.ret ⟨?_, rfl, rfl, Nat.zero_le _, _, rfl⟩
    rfl

theorem EnoughR_ok (x : List (List Acc)) (l : List Fen) (hx : Big x) (hl : l.length ≤ 1000000000) :
    ACall P 41 [.d (dX x), .d (.list 2 (l.map dFen))] [] (.tuple [AB (enoughT x l).1, AI (enoughT x l).2]) [] := by
  have cf := fencedR_ok x l hx hl
  have hval : (fencedT x l).2 = 0 → _ := fencedT_ok
  unfold enoughT
  obtain ⟨⟨out, e⟩, hT'⟩ : ∃ t, fencedT x l = t := ⟨_, rfl⟩
  rw [hT'] at cf hval ⊢
  dsimp only at cf hval ⊢
  by_cases he : e = 0
  · obtain ⟨hv, hFl, rfl⟩ := hval he
    have hx' := valid_small hv
    have h48 := stations_48 hv
    have hcl : (circles x).length ≤ 112945 := by
      have := circFrom_length x (stations x) (stations_48 hv) 3 []
      have e : circBound 3 = 112945 := by decide
      unfold circles; omega
    rw [if_pos he]
    subst he
    have hnl : (neededL x).length ≤ 48 := Nat.le_trans (List.length_filter_le _ _) (Nat.le_trans (List.length_filter_le _ _) h48)
    have cn := neededR_ok x hx' (by rw [stationsR_eq]; omega) (by rw [stationsR_eq]; exact fun s hs => mem_stations hs) (by rw [circlesR_eq]; omega) (by rw [circlesR_eq]; exact fun l hl => (mem_circles_iff.1 hl).2.1)
    rw [neededR_eq] at cn
    have ce := enoughR_ok out (neededL x) hl (by omega)
    obtain ⟨r, hr⟩ : ∃ r, enoughF out (neededL x) = r := ⟨_, rfl⟩
    obtain ⟨N, hN⟩ : ∃ r, (neededL x).map dSta = r := ⟨_, rfl⟩
    obtain ⟨X, hX⟩ : ∃ X, dX x = X := ⟨_, rfl⟩
    obtain ⟨L, hL⟩ : ∃ X, out.map dFen = X := ⟨_, rfl⟩
    rw [hr] at ce ⊢
    rw [hN] at ce cn
    rw [hX] at cf cn ⊢
    rw [hL] at cf ce ⊢
    refine ACall.enter hT (fn := Try.f41) Try.func41 rfl (by decide) (by simp [Try.f41]) rfl rfl rfl rfl (Nat.le_refl _) ?_
    repeat refine AWp.seq ?_
    refine AWp.reg1 {} hT (fun A hA => by cbv) (Nat.zero_le _) ?_
    try dsimp only [AExit.then, AExit.block]
    repeat refine AWp.seq ?_
    refine AWp.region ?_
    refine AOps.stepCall hT (an := {}) (fun A hA => by cbv) (Nat.zero_le _) rfl (.inr rfl) rfl rfl rfl (Nat.le_of_ble_eq_true rfl) rfl rfl (cf) ?_
    refine AOps.done hT (an := {}) (fun A hA => by cbv) (Nat.zero_le _) ?_
    try dsimp only [AExit.then, AExit.block]
    repeat refine AWp.seq ?_
    refine AWp.reg1 {} hT (fun A hA => by
        have f0 := ar_eq hA (rfl : (0 : Int) = 0)
        repeat (cbv; simp only [f0])
        cbv) (Nat.zero_le _) ?_
    try dsimp only [AExit.then, AExit.block]
    repeat refine AWp.seq ?_
    refine AWp.cond (b := false) rfl (AWp.skip ?_)
    try dsimp only [AExit.then, AExit.block]
    repeat refine AWp.seq ?_
    refine AWp.region ?_
    refine AOps.stepCall hT (an := {}) (fun A hA => by cbv) (Nat.zero_le _) rfl (.inr rfl) rfl rfl rfl (Nat.le_of_ble_eq_true rfl) rfl rfl (cn) ?_
    refine AOps.stepCall hT (an := {}) (fun A hA => by cbv) (Nat.zero_le _) rfl (.inr rfl) rfl rfl rfl (Nat.le_of_ble_eq_true rfl) rfl rfl (ce) ?_
    refine AOps.done hT (an := {}) (fun A hA => by cbv) (Nat.zero_le _) ?_
    try dsimp only [AExit.then, AExit.block]
    repeat refine AWp.seq ?_
    refine AWp.ret ⟨?_, rfl, rfl, Nat.zero_le _, _, rfl⟩
    rfl
  · rw [if_neg he]
    obtain ⟨X, hX⟩ : ∃ X, dX x = X := ⟨_, rfl⟩
    obtain ⟨L, hL⟩ : ∃ X, l.map dFen = X := ⟨_, rfl⟩
    rw [hX] at cf ⊢
    rw [hL] at cf ⊢
    refine ACall.enter hT (fn := Try.f41) Try.func41 rfl (by decide) (by simp [Try.f41]) rfl rfl rfl rfl (Nat.le_refl _) ?_
    repeat refine AWp.seq ?_
    refine AWp.reg1 {} hT (fun A hA => by cbv) (Nat.zero_le _) ?_
    try dsimp only [AExit.then, AExit.block]
    repeat refine AWp.seq ?_
    refine AWp.region ?_
    refine AOps.stepCall hT (an := {}) (fun A hA => by cbv) (Nat.zero_le _) rfl (.inr rfl) rfl rfl rfl (Nat.le_of_ble_eq_true rfl) rfl rfl (cf) ?_
    refine AOps.done hT (an := {}) (fun A hA => by cbv) (Nat.zero_le _) ?_
    try dsimp only [AExit.then, AExit.block]
    repeat refine AWp.seq ?_
    refine AWp.reg1 {} hT (fun A hA => by
        have f0 := ar_ne hA he
        repeat (cbv; simp only [f0])
        cbv) (Nat.zero_le _) ?_
    try dsimp only [AExit.then, AExit.block]
    repeat refine AWp.seq ?_
    refine AWp.cond (b := true) rfl ?_
    rw [if_pos rfl]
    repeat refine AWp.seq ?_
    refine AWp.reg1 {} hT (fun A hA => by cbv) (Nat.zero_le _) ?_
    try dsimp only [AExit.then, AExit.block]
    repeat refine AWp.seq ?_
    refine AWp.ret ⟨?_, rfl, rfl, Nat.zero_le _, _, rfl⟩
    rfl

theorem CostR_ok (x : List (List Acc)) (c : List (List Int)) (l : List Fen) (hx : Big x) (hc : c.length ≤ 1000000000) (hcr : ∀ r ∈ c, r.length ≤ 9223372036854775807) (hl : l.length ≤ 1000000000) :
    ACall P 43 [.d (dX x), .d (dCost c), .d (.list 2 (l.map dFen))] [] (.tuple [AI (costT x c l).1, AI (costT x c l).2]) [] := by
  have cf := fencedR_ok x l hx hl
  have hval : (fencedT x l).2 = 0 → _ := fencedT_ok
  unfold costT
  obtain ⟨⟨out, e⟩, hT'⟩ : ∃ t, fencedT x l = t := ⟨_, rfl⟩
  rw [hT'] at cf hval ⊢
  dsimp only at cf hval ⊢
  by_cases he : e = 0
  · obtain ⟨hv, hFl, rfl⟩ := hval he
    have hx' := valid_small hv
    rw [if_pos he]
    subst he
    have cp := AreCosts_ok x c hx' hc hcr
    cases hp : pricedB x c with
    | false =>
      rw [hp] at cp
      simp only [Bool.false_eq_true, if_false]
      obtain ⟨X, hX⟩ : ∃ X, dX x = X := ⟨_, rfl⟩
      obtain ⟨L, hL⟩ : ∃ X, out.map dFen = X := ⟨_, rfl⟩
      obtain ⟨C, hC⟩ : ∃ X, dCost c = X := ⟨_, rfl⟩
      rw [hX] at cf cp ⊢
      rw [hL] at cf ⊢
      rw [hC] at cp ⊢
      refine ACall.enter hT (fn := Try.f43) Try.func43 rfl (by decide) (by simp [Try.f43]) rfl rfl rfl rfl (Nat.le_refl _) ?_
      repeat refine AWp.seq ?_
      refine AWp.reg1 {} hT (fun A hA => by cbv) (Nat.zero_le _) ?_
      try dsimp only [AExit.then, AExit.block]
      repeat refine AWp.seq ?_
      refine AWp.region ?_
      refine AOps.stepCall hT (an := {}) (fun A hA => by cbv) (Nat.zero_le _) rfl (.inr rfl) rfl rfl rfl (Nat.le_of_ble_eq_true rfl) rfl rfl (cf) ?_
      refine AOps.done hT (an := {}) (fun A hA => by cbv) (Nat.zero_le _) ?_
      try dsimp only [AExit.then, AExit.block]
      repeat refine AWp.seq ?_
      refine AWp.reg1 {} hT (fun A hA => by
          have f0 := ar_eq hA (rfl : (0 : Int) = 0)
          repeat (cbv; simp only [f0])
          cbv) (Nat.zero_le _) ?_
      try dsimp only [AExit.then, AExit.block]
      repeat refine AWp.seq ?_
      refine AWp.cond (b := false) rfl (AWp.skip ?_)
      try dsimp only [AExit.then, AExit.block]
      repeat refine AWp.seq ?_
      refine AWp.region ?_
      refine AOps.stepCall hT (an := {}) (fun A hA => by cbv) (Nat.zero_le _) rfl (.inr rfl) rfl rfl rfl (Nat.le_of_ble_eq_true rfl) rfl rfl (cp) ?_
      refine AOps.done hT (an := {}) (fun A hA => by cbv) (Nat.zero_le _) ?_
      try dsimp only [AExit.then, AExit.block]
      repeat refine AWp.seq ?_
      refine AWp.cond (b := true) rfl ?_
      rw [if_pos rfl]
      repeat refine AWp.seq ?_
      refine AWp.reg1 {} hT (fun A hA => by cbv) (Nat.zero_le _) ?_
      try dsimp only [AExit.then, AExit.block]
      repeat refine AWp.seq ?_
      refine AWp.ret ⟨?_, rfl, rfl, Nat.zero_le _, _, rfl⟩
      rfl
    | true =>
      rw [hp] at cp
      simp only [if_true]
      have cc := costR_ok c out (priced_09 hp) hl (fun f hf => inCost_of hp (fencesB_mem hFl f hf))
      obtain ⟨S, hS⟩ : ∃ S, costF c out = S := ⟨_, rfl⟩
      obtain ⟨X, hX⟩ : ∃ X, dX x = X := ⟨_, rfl⟩
      obtain ⟨L, hL⟩ : ∃ X, out.map dFen = X := ⟨_, rfl⟩
      obtain ⟨C, hC⟩ : ∃ X, dCost c = X := ⟨_, rfl⟩
      rw [hX] at cf cp ⊢
      rw [hL] at cf cc ⊢
      rw [hC] at cp cc ⊢
      rw [hS] at cc ⊢
      refine ACall.enter hT (fn := Try.f43) Try.func43 rfl (by decide) (by simp [Try.f43]) rfl rfl rfl rfl (Nat.le_refl _) ?_
      repeat refine AWp.seq ?_
      refine AWp.reg1 {} hT (fun A hA => by cbv) (Nat.zero_le _) ?_
      try dsimp only [AExit.then, AExit.block]
      repeat refine AWp.seq ?_
      refine AWp.region ?_
      refine AOps.stepCall hT (an := {}) (fun A hA => by cbv) (Nat.zero_le _) rfl (.inr rfl) rfl rfl rfl (Nat.le_of_ble_eq_true rfl) rfl rfl (cf) ?_
      refine AOps.done hT (an := {}) (fun A hA => by cbv) (Nat.zero_le _) ?_
      try dsimp only [AExit.then, AExit.block]
      repeat refine AWp.seq ?_
      refine AWp.reg1 {} hT (fun A hA => by
          have f0 := ar_eq hA (rfl : (0 : Int) = 0)
          repeat (cbv; simp only [f0])
          cbv) (Nat.zero_le _) ?_
      try dsimp only [AExit.then, AExit.block]
      repeat refine AWp.seq ?_
      refine AWp.cond (b := false) rfl (AWp.skip ?_)
      try dsimp only [AExit.then, AExit.block]
      repeat refine AWp.seq ?_
      refine AWp.region ?_
      refine AOps.stepCall hT (an := {}) (fun A hA => by cbv) (Nat.zero_le _) rfl (.inr rfl) rfl rfl rfl (Nat.le_of_ble_eq_true rfl) rfl rfl (cp) ?_
      refine AOps.done hT (an := {}) (fun A hA => by cbv) (Nat.zero_le _) ?_
      try dsimp only [AExit.then, AExit.block]
      repeat refine AWp.seq ?_
      refine AWp.cond (b := false) rfl (AWp.skip ?_)
      try dsimp only [AExit.then, AExit.block]
      repeat refine AWp.seq ?_
      refine AWp.region ?_
      refine AOps.stepCall hT (an := {}) (fun A hA => by cbv) (Nat.zero_le _) rfl (.inr rfl) rfl rfl rfl (Nat.le_of_ble_eq_true rfl) rfl rfl (cc) ?_
      refine AOps.done hT (an := {}) (fun A hA => by cbv) (Nat.zero_le _) ?_
      try dsimp only [AExit.then, AExit.block]
      repeat refine AWp.seq ?_
      refine AWp.ret ⟨?_, rfl, rfl, Nat.zero_le _, _, rfl⟩
      rfl
  · rw [if_neg he]
    obtain ⟨X, hX⟩ : ∃ X, dX x = X := ⟨_, rfl⟩
    obtain ⟨L', hL'⟩ : ∃ X, l.map dFen = X := ⟨_, rfl⟩
    obtain ⟨C, hC⟩ : ∃ X, dCost c = X := ⟨_, rfl⟩
    rw [hX] at cf ⊢
    rw [hL'] at cf ⊢
    rw [hC]
    refine ACall.enter hT (fn := Try.f43) Try.func43 rfl (by decide) (by simp [Try.f43]) rfl rfl rfl rfl (Nat.le_refl _) ?_
    repeat refine AWp.seq ?_
    refine AWp.reg1 {} hT (fun A hA => by cbv) (Nat.zero_le _) ?_
    try dsimp only [AExit.then, AExit.block]
    repeat refine AWp.seq ?_
    refine AWp.region ?_
    refine AOps.stepCall hT (an := {}) (fun A hA => by cbv) (Nat.zero_le _) rfl (.inr rfl) rfl rfl rfl (Nat.le_of_ble_eq_true rfl) rfl rfl (cf) ?_
    refine AOps.done hT (an := {}) (fun A hA => by cbv) (Nat.zero_le _) ?_
    try dsimp only [AExit.then, AExit.block]
    repeat refine AWp.seq ?_
    refine AWp.reg1 {} hT (fun A hA => by
        have f0 := ar_ne hA he
        repeat (cbv; simp only [f0])
        cbv) (Nat.zero_le _) ?_
    try dsimp only [AExit.then, AExit.block]
    repeat refine AWp.seq ?_
    refine AWp.cond (b := true) rfl ?_
    rw [if_pos rfl]
    repeat refine AWp.seq ?_
    refine AWp.reg1 {} hT (fun A hA => by cbv) (Nat.zero_le _) ?_
    try dsimp only [AExit.then, AExit.block]
    repeat refine AWp.seq ?_
    refine AWp.ret ⟨?_, rfl, rfl, Nat.zero_le _, _, rfl⟩
    rfl
end Go.Am

set_option maxRecDepth 100000
set_option linter.unusedVariables false
set_option linter.unusedSimpArgs false
namespace Go.Am
open Go Go.Proofs

def wideB (c : List (List Int)) : Bool := c.any (fun r => decide (40 < r.length)) || decide (40 < c.length)
theorem wide_ok (c : List (List Int)) (hc : c.length ≤ 9223372036854775807) : ACall P 37 [.d (dCost c)] [] (AB (wideB c)) [] := by
  obtain ⟨F, hF⟩ : ∃ F, wideB c = F := ⟨_, rfl⟩
  rw [hF]
  unfold wideB at hF
  unfold dCost
  obtain ⟨C, hC⟩ : ∃ X, c.map dRow = X := ⟨_, rfl⟩
  obtain ⟨n, hn⟩ : ∃ n : Int, (C.length : Int) = n := ⟨_, rfl⟩
  have hcn : (c.length : Int) = n := by rw [← hn, ← hC]; simp
  rw [hC]
  refine ACall.enter hT (fn := Try.f37) Try.func37 rfl (by decide) (by simp [Try.f37]) rfl rfl rfl rfl (Nat.le_refl _) ?_
  repeat refine AWp.seq ?_
  refine AWp.reg1 {} hT (fun A hA => by cbv) (Nat.zero_le _) ?_
  try dsimp only [AExit.then, AExit.block]
  repeat refine AWp.seq ?_
  refine AWp.reg1 {} hT (fun A hA => by
      have f0 := ar_len hA C n hn
      repeat (cbv; simp only [f0])
      cbv) (Nat.zero_le _) ?_
  try dsimp only [AExit.then, AExit.block]
  refine AWp.block (AWp.loopInv (ι := Int) (fun z => 0 ≤ z ∧ z ≤ n ∧ ∀ r ∈ c.take z.toNat, r.length ≤ 40) (fun z => (n - z).toNat) [0, 5, 6, 7]
    (fun z => { env := [(0, .d (.list 1 C)), (5, .d (.list 1 C)), (6, AI n), (7, AI z)], heap := [], n := 18 }) 0 (by cbv) ⟨Int.le_refl _, by omega, by simp⟩ ?_)
  rintro z ⟨h0, h1, h2⟩
  by_cases hz : z < n
  · obtain ⟨r, hr⟩ : ∃ s, c[z.toNat]? = some s := ⟨_, List.getElem?_eq_getElem (by omega)⟩
    obtain ⟨R, hR⟩ : ∃ R, r.map I = R := ⟨_, rfl⟩
    obtain ⟨k, hk⟩ : ∃ n : Int, (R.length : Int) = n := ⟨_, rfl⟩
    have hrk : (r.length : Int) = k := by rw [← hk, ← hR]; simp
    have hCz : C[z.toNat]? = some (.list 1 R) := by rw [← hC, List.getElem?_map, hr, ← hR]; rfl
    obtain ⟨z1, hz1⟩ : ∃ z1, z + 1 = z1 := ⟨_, rfl⟩
    repeat refine AWp.seq ?_
    refine AWp.reg1 {} hT (fun A hA => by
        have f0 := ar_lt hA hz
        repeat (cbv; simp only [f0])
        cbv) (Nat.zero_le _) ?_
    try dsimp only [AExit.then, AExit.block]
    repeat refine AWp.seq ?_
    refine AWp.cond (b := true) rfl (AWp.skip ?_)
    try dsimp only [AExit.then, AExit.block]
    repeat refine AWp.seq ?_
    refine AWp.block ?_
    repeat refine AWp.seq ?_
    refine AWp.reg1 {} hT (fun A hA => by
        have f0 := ar_get hA hCz
        have f1 := ar_le hA h0
        repeat (cbv; simp only [f0, f1])
        cbv) (Nat.zero_le _) ?_
    try dsimp only [AExit.then, AExit.block]
    by_cases hk40 : 40 < k
    · rw [List.any_eq_true.2 ⟨r, List.mem_of_getElem? hr, by simp; omega⟩] at hF
      subst hF
      repeat refine AWp.seq ?_
      refine AWp.reg1 {} hT (fun A hA => by
          have f0 := ar_len hA R k hk
          have f1 := ar_lt hA hk40
          repeat (cbv; simp only [f0, f1])
          cbv) (Nat.zero_le _) ?_
      try dsimp only [AExit.then, AExit.block]
      repeat refine AWp.seq ?_
      refine AWp.cond (b := true) rfl ?_
      rw [if_pos rfl]
      repeat refine AWp.seq ?_
      refine AWp.reg1 {} hT (fun A hA => by cbv) (Nat.zero_le _) ?_
      try dsimp only [AExit.then, AExit.block]
      repeat refine AWp.seq ?_
      refine AWp.ret ⟨?_, rfl, rfl, Nat.zero_le _, _, rfl⟩
      rfl
    · repeat refine AWp.seq ?_
      refine AWp.reg1 {} hT (fun A hA => by
          have f0 := ar_len hA R k hk
          have f1 := ar_nlt hA hk40
          repeat (cbv; simp only [f0, f1])
          cbv) (Nat.zero_le _) ?_
      try dsimp only [AExit.then, AExit.block]
      repeat refine AWp.seq ?_
      refine AWp.cond (b := false) rfl (AWp.skip ?_)
      try dsimp only [AExit.then, AExit.block]
      repeat refine AWp.seq ?_
      refine AWp.reg1 {} hT (fun A hA => by
          have f0 := ar_add hA z 1 z1 hz1 (by omega) (by omega)
          repeat (cbv; simp only [f0])
          cbv) (Nat.zero_le _) ?_
      try dsimp only [AExit.then, AExit.block]
      refine ⟨z1, ⟨by omega, by omega, fun w hw => ?_⟩, by omega, by cbv⟩
      rw [show z1.toNat = z.toNat + 1 by omega, List.take_add_one, hr] at hw
      simp only [Option.toList_some, List.mem_append, List.mem_singleton] at hw
      rcases hw with hw | rfl
      · exact h2 w hw
      · omega
  · rw [List.take_of_length_le (by omega)] at h2
    rw [List.any_eq_false.2 (fun r hr => by have := h2 r hr; simp; omega), Bool.false_or] at hF
    have hlt : ∀ A : Ar, A = Ar.std → A.zlt 40 n = F := fun A hA => by
      subst hA; rw [← hF]
      show decide (40 < n) = decide (40 < c.length)
      by_cases e : 40 < n
      · rw [decide_eq_true e, decide_eq_true (by omega)]
      · rw [decide_eq_false e, decide_eq_false (by omega)]
    repeat refine AWp.seq ?_
    refine AWp.reg1 {} hT (fun A hA => by
        have f0 := ar_nlt hA hz
        repeat (cbv; simp only [f0])
        cbv) (Nat.zero_le _) ?_
    try dsimp only [AExit.then, AExit.block]
    repeat refine AWp.seq ?_
    refine AWp.cond (b := false) rfl (AWp.exit ?_)
    try dsimp only [AExit.then, AExit.block]
    rw [if_pos rfl]
    repeat refine AWp.seq ?_
    refine AWp.reg1 {} hT (fun A hA => by
        have f0 := ar_len hA C n hn
        have f1 := hlt A hA
        repeat (cbv; simp only [f0, f1])
        cbv) (Nat.zero_le _) ?_
    try dsimp only [AExit.then, AExit.block]
    repeat refine AWp.seq ?_
    refine AWp.ret ⟨?_, rfl, rfl, Nat.zero_le _, _, rfl⟩
    rfl

theorem DelayFences_ok (x : List (List Acc)) (c : List (List Int)) (l : List Fen) (hx : Big x) (hc : c.length ≤ 9223372036854775807) (hl : l.length ≤ 9223372036854775807) :
    ACall P 8 [.d (dX x), .d (dCost c), .d (.list 2 (l.map dFen))] [] (AB true) [] := by
  have clo := long_ok x hx
  have caw := awake_ok
  have cw := wide_ok c hc
  obtain ⟨L, hL⟩ : ∃ X, l.map dFen = X := ⟨_, rfl⟩
  obtain ⟨k, hk⟩ : ∃ n : Int, (L.length : Int) = n := ⟨_, rfl⟩
  have hlk : (l.length : Int) = k := by rw [← hk, ← hL]; simp
  rw [hL]
  cases hlo : long x with
  | true =>
    rw [hlo] at clo
    obtain ⟨X, hX⟩ : ∃ X, dX x = X := ⟨_, rfl⟩
    obtain ⟨C, hC⟩ : ∃ X, dCost c = X := ⟨_, rfl⟩
    rw [hX] at clo ⊢
    rw [hC]
    refine ACall.enter hT (fn := Try.f8) Try.func8 rfl (by decide) (by simp [Try.f8]) rfl rfl rfl rfl (Nat.le_refl _) ?_
    repeat refine AWp.seq ?_
    refine AWp.reg1 {} hT (fun A hA => by cbv) (Nat.zero_le _) ?_
    try dsimp only [AExit.then, AExit.block]
    repeat refine AWp.seq ?_
    refine AWp.region ?_
    refine AOps.stepCall hT (an := {}) (fun A hA => by cbv) (Nat.zero_le _) rfl (.inr rfl) rfl rfl rfl (Nat.le_of_ble_eq_true rfl) rfl rfl (clo) ?_
    refine AOps.done hT (an := {}) (fun A hA => by cbv) (Nat.zero_le _) ?_
    try dsimp only [AExit.then, AExit.block]
    repeat refine AWp.seq ?_
    refine AWp.cond (b := true) rfl ?_
    rw [if_pos rfl]
    repeat refine AWp.seq ?_
    refine AWp.region ?_
    refine AOps.stepCall hT (an := {}) (fun A hA => by cbv) (Nat.zero_le _) rfl (.inr rfl) rfl rfl rfl (Nat.le_of_ble_eq_true rfl) rfl rfl (caw) ?_
    refine AOps.done hT (an := {}) (fun A hA => by cbv) (Nat.zero_le _) ?_
    try dsimp only [AExit.then, AExit.block]
    repeat refine AWp.seq ?_
    refine AWp.ret ⟨?_, rfl, rfl, Nat.zero_le _, _, rfl⟩
    rfl
  | false =>
    rw [hlo] at clo
    cases hw : wideB c with
    | true =>
      rw [hw] at cw
      obtain ⟨X, hX⟩ : ∃ X, dX x = X := ⟨_, rfl⟩
      obtain ⟨C, hC⟩ : ∃ X, dCost c = X := ⟨_, rfl⟩
      rw [hX] at clo ⊢
      rw [hC] at cw ⊢
      refine ACall.enter hT (fn := Try.f8) Try.func8 rfl (by decide) (by simp [Try.f8]) rfl rfl rfl rfl (Nat.le_refl _) ?_
      repeat refine AWp.seq ?_
      refine AWp.reg1 {} hT (fun A hA => by cbv) (Nat.zero_le _) ?_
      try dsimp only [AExit.then, AExit.block]
      repeat refine AWp.seq ?_
      refine AWp.region ?_
      refine AOps.stepCall hT (an := {}) (fun A hA => by cbv) (Nat.zero_le _) rfl (.inr rfl) rfl rfl rfl (Nat.le_of_ble_eq_true rfl) rfl rfl (clo) ?_
      refine AOps.stepCall hT (an := {}) (fun A hA => by cbv) (Nat.zero_le _) rfl (.inr rfl) rfl rfl rfl (Nat.le_of_ble_eq_true rfl) rfl rfl (cw) ?_
      refine AOps.done hT (an := {}) (fun A hA => by cbv) (Nat.zero_le _) ?_
      try dsimp only [AExit.then, AExit.block]
      repeat refine AWp.seq ?_
      refine AWp.cond (b := true) rfl ?_
      rw [if_pos rfl]
      repeat refine AWp.seq ?_
      refine AWp.region ?_
      refine AOps.stepCall hT (an := {}) (fun A hA => by cbv) (Nat.zero_le _) rfl (.inr rfl) rfl rfl rfl (Nat.le_of_ble_eq_true rfl) rfl rfl (caw) ?_
      refine AOps.done hT (an := {}) (fun A hA => by cbv) (Nat.zero_le _) ?_
      try dsimp only [AExit.then, AExit.block]
      repeat refine AWp.seq ?_
      refine AWp.ret ⟨?_, rfl, rfl, Nat.zero_le _, _, rfl⟩
      rfl
    | false =>
      rw [hw] at cw
      by_cases hk40 : 40 < k
      · obtain ⟨X, hX⟩ : ∃ X, dX x = X := ⟨_, rfl⟩
        obtain ⟨C, hC⟩ : ∃ X, dCost c = X := ⟨_, rfl⟩
        rw [hX] at clo ⊢
        rw [hC] at cw ⊢
        refine ACall.enter hT (fn := Try.f8) Try.func8 rfl (by decide) (by simp [Try.f8]) rfl rfl rfl rfl (Nat.le_refl _) ?_
        repeat refine AWp.seq ?_
        refine AWp.reg1 {} hT (fun A hA => by cbv) (Nat.zero_le _) ?_
        try dsimp only [AExit.then, AExit.block]
        repeat refine AWp.seq ?_
        refine AWp.region ?_
        refine AOps.stepCall hT (an := {}) (fun A hA => by cbv) (Nat.zero_le _) rfl (.inr rfl) rfl rfl rfl (Nat.le_of_ble_eq_true rfl) rfl rfl (clo) ?_
        refine AOps.stepCall hT (an := {}) (fun A hA => by cbv) (Nat.zero_le _) rfl (.inr rfl) rfl rfl rfl (Nat.le_of_ble_eq_true rfl) rfl rfl (cw) ?_
        refine AOps.done hT (an := {}) (fun A hA => by
            have f0 := ar_len hA L k hk
            have f1 := ar_lt hA hk40
            repeat (cbv; simp only [f0, f1])
            cbv) (Nat.zero_le _) ?_
        try dsimp only [AExit.then, AExit.block]
        repeat refine AWp.seq ?_
        refine AWp.cond (b := true) rfl ?_
        rw [if_pos rfl]
        repeat refine AWp.seq ?_
        refine AWp.region ?_
        refine AOps.stepCall hT (an := {}) (fun A hA => by cbv) (Nat.zero_le _) rfl (.inr rfl) rfl rfl rfl (Nat.le_of_ble_eq_true rfl) rfl rfl (caw) ?_
        refine AOps.done hT (an := {}) (fun A hA => by cbv) (Nat.zero_le _) ?_
        try dsimp only [AExit.then, AExit.block]
        repeat refine AWp.seq ?_
        refine AWp.ret ⟨?_, rfl, rfl, Nat.zero_le _, _, rfl⟩
        rfl
      have hc40 : c.length ≤ 40 ∧ ∀ r ∈ c, r.length ≤ 40 := by
        unfold wideB at hw
        rw [Bool.or_eq_false_iff, decide_eq_false_iff_not, List.any_eq_false] at hw
        refine ⟨by omega, fun r hr => ?_⟩
        have := hw.1 r hr
        simp at this
        exact this
      have c1 := Held_ok x l hx (by omega)
      have c2 := HeldR_ok x l hx (by omega)
      have c3 := Enough_ok x l hx (by omega)
      have c4 := EnoughR_ok x l hx (by omega)
      have c5 := Cost_ok x c l hx (by omega) (fun r hr => by have := hc40.2 r hr; omega) (by omega)
      have c6 := CostR_ok x c l hx (by omega) (fun r hr => by have := hc40.2 r hr; omega) (by omega)
      obtain ⟨q, hq, hql⟩ : ∃ q : List Sta, (if (fencedT x l).2 = 0 then ((pairsL x).filter (heldF (fencedT x l).1)).map dSta else []) = q.map dSta ∧ q.length ≤ 9223372036854775807 := by
        by_cases h : (fencedT x l).2 = 0
        · rw [if_pos h]
          refine ⟨_, rfl, ?_⟩
          have := stations_48 (fencedT_ok h).1
          have h2 := List.length_filter_le (isPair x) (stations x)
          have h3 := List.length_filter_le (heldF (fencedT x l).1) (pairsL x)
          unfold pairsL at *
          omega
        · rw [if_neg h]; exact ⟨[], rfl, by simp⟩
      have c7 := sameStations_ok q q hql
      rw [decide_eq_true rfl] at c7
      rw [hq] at c1 c2
      obtain ⟨e1, he1⟩ : ∃ e, (fencedT x l).2 = e := ⟨_, rfl⟩
      obtain ⟨⟨b2, e2⟩, he2⟩ : ∃ e, enoughT x l = e := ⟨_, rfl⟩
      obtain ⟨⟨n3, e3⟩, he3⟩ : ∃ e, costT x c l = e := ⟨_, rfl⟩
      rw [he1] at c1 c2
      rw [he2] at c3 c4
      rw [he3] at c5 c6
      dsimp only at c3 c4 c5 c6
      obtain ⟨Q, hQ⟩ : ∃ X, q.map dSta = X := ⟨_, rfl⟩
      obtain ⟨X, hX⟩ : ∃ X, dX x = X := ⟨_, rfl⟩
      obtain ⟨C, hC⟩ : ∃ X, dCost c = X := ⟨_, rfl⟩
      rw [hX] at clo c1 c2 c3 c4 c5 c6 ⊢
      rw [hC] at cw c5 c6 ⊢
      rw [hL] at c1 c2 c3 c4 c5 c6
      rw [hQ] at c1 c2 c7
      have hbb : (b2 == b2) = true := by cases b2 <;> rfl
      refine ACall.enter hT (fn := Try.f8) Try.func8 rfl (by decide) (by simp [Try.f8]) rfl rfl rfl rfl (Nat.le_refl _) ?_
      repeat refine AWp.seq ?_
      refine AWp.reg1 {} hT (fun A hA => by cbv) (Nat.zero_le _) ?_
      try dsimp only [AExit.then, AExit.block]
      repeat refine AWp.seq ?_
      refine AWp.region ?_
      refine AOps.stepCall hT (an := {}) (fun A hA => by cbv) (Nat.zero_le _) rfl (.inr rfl) rfl rfl rfl (Nat.le_of_ble_eq_true rfl) rfl rfl (clo) ?_
      refine AOps.stepCall hT (an := {}) (fun A hA => by cbv) (Nat.zero_le _) rfl (.inr rfl) rfl rfl rfl (Nat.le_of_ble_eq_true rfl) rfl rfl (cw) ?_
      refine AOps.done hT (an := {}) (fun A hA => by
          have f0 := ar_len hA L k hk
          have f1 := ar_nlt hA hk40
          repeat (cbv; simp only [f0, f1])
          cbv) (Nat.zero_le _) ?_
      try dsimp only [AExit.then, AExit.block]
      repeat refine AWp.seq ?_
      refine AWp.cond (b := false) rfl (AWp.skip ?_)
      try dsimp only [AExit.then, AExit.block]
      repeat refine AWp.seq ?_
      refine AWp.region ?_
      refine AOps.stepCall hT (an := {}) (fun A hA => by cbv) (Nat.zero_le _) rfl (.inr rfl) rfl rfl rfl (Nat.le_of_ble_eq_true rfl) rfl rfl (c1) ?_
      refine AOps.done hT (an := {}) (fun A hA => by cbv) (Nat.zero_le _) ?_
      try dsimp only [AExit.then, AExit.block]
      repeat refine AWp.seq ?_
      refine AWp.region ?_
      refine AOps.stepCall hT (an := {}) (fun A hA => by cbv) (Nat.zero_le _) rfl (.inr rfl) rfl rfl rfl (Nat.le_of_ble_eq_true rfl) rfl rfl (c2) ?_
      refine AOps.done hT (an := {}) (fun A hA => by cbv) (Nat.zero_le _) ?_
      try dsimp only [AExit.then, AExit.block]
      repeat refine AWp.seq ?_
      refine AWp.region ?_
      refine AOps.stepCall hT (an := {}) (fun A hA => by cbv) (Nat.zero_le _) rfl (.inr rfl) rfl rfl rfl (Nat.le_of_ble_eq_true rfl) rfl rfl (c3) ?_
      refine AOps.done hT (an := {}) (fun A hA => by cbv) (Nat.zero_le _) ?_
      try dsimp only [AExit.then, AExit.block]
      repeat refine AWp.seq ?_
      refine AWp.region ?_
      refine AOps.stepCall hT (an := {}) (fun A hA => by cbv) (Nat.zero_le _) rfl (.inr rfl) rfl rfl rfl (Nat.le_of_ble_eq_true rfl) rfl rfl (c4) ?_
      refine AOps.done hT (an := {}) (fun A hA => by cbv) (Nat.zero_le _) ?_
      try dsimp only [AExit.then, AExit.block]
      repeat refine AWp.seq ?_
      refine AWp.region ?_
      refine AOps.stepCall hT (an := {}) (fun A hA => by cbv) (Nat.zero_le _) rfl (.inr rfl) rfl rfl rfl (Nat.le_of_ble_eq_true rfl) rfl rfl (c7) ?_
      refine AOps.done hT (an := {}) (fun A hA => by
          have f0 := ar_eq hA (rfl : e1 = e1)
          have f1 := ar_beq hA hbb
          have f2 := ar_eq hA (rfl : e2 = e2)
          repeat (cbv; simp only [f0, f1, f2])
          cbv) (Nat.zero_le _) ?_
      try dsimp only [AExit.then, AExit.block]
      repeat refine AWp.seq ?_
      refine AWp.cond (b := false) rfl (AWp.skip ?_)
      try dsimp only [AExit.then, AExit.block]
      repeat refine AWp.seq ?_
      refine AWp.region ?_
      refine AOps.stepCall hT (an := {}) (fun A hA => by cbv) (Nat.zero_le _) rfl (.inr rfl) rfl rfl rfl (Nat.le_of_ble_eq_true rfl) rfl rfl (c5) ?_
      refine AOps.done hT (an := {}) (fun A hA => by cbv) (Nat.zero_le _) ?_
      try dsimp only [AExit.then, AExit.block]
      repeat refine AWp.seq ?_
      refine AWp.region ?_
      refine AOps.stepCall hT (an := {}) (fun A hA => by cbv) (Nat.zero_le _) rfl (.inr rfl) rfl rfl rfl (Nat.le_of_ble_eq_true rfl) rfl rfl (c6) ?_
      refine AOps.done hT (an := {}) (fun A hA => by cbv) (Nat.zero_le _) ?_
      try dsimp only [AExit.then, AExit.block]
      repeat refine AWp.seq ?_
      refine AWp.region ?_
      refine AOps.stepCall hT (an := {}) (fun A hA => by
          have f0 := ar_eq hA (rfl : n3 = n3)
          have f1 := ar_eq hA (rfl : e3 = e3)
          repeat (cbv; simp only [f0, f1])
          cbv) (Nat.zero_le _) rfl (.inr rfl) rfl rfl rfl (Nat.le_of_ble_eq_true rfl) rfl rfl (caw) ?_
      refine AOps.done hT (an := {}) (fun A hA => by cbv) (Nat.zero_le _) ?_
      try dsimp only [AExit.then, AExit.block]
      repeat refine AWp.seq ?_
      refine AWp.ret ⟨?_, rfl, rfl, Nat.zero_le _, _, rfl⟩
      rfl
end Go.Am
