/- Own text: D1td. -/
import Derived.Test.YtalfdjihejohoaaD1tb
set_option maxRecDepth 100000
set_option linter.unusedVariables false
set_option linter.unusedSimpArgs false
namespace Go.Am
open Go Go.Proofs

/-- A station of threads that are turned round. -/
def mir (x : List (List Acc)) (s : Sta) : Sta := (s.1, ((x.getD s.1.toNat []).length : Int) - 1 - s.2.2, ((x.getD s.1.toNat []).length : Int) - 1 - s.2.1)

theorem DelayTurns_ok (x : List (List Acc)) (hx : Big x) (hyb : Big (turned x)) (h1 : valid x = true → valid (turned x) = true) (h2 : turned (turned x) = x) (h3 : valid x = true → (neededL (turned x)).length = (neededL x).length) (h4 : valid x = true → nCirc (turned x) = nCirc x)
    (h5 : ∀ s ∈ neededL x, (neededL (turned x)).contains (mir x s) = true) (h6 : ∀ s ∈ neededL x, isThere x s = true) :
    ACall P 5 [.d (dX x)] [] (AB true) [] := by
  have clo := long_ok x hx
  have cv := validR_ok x hx
  have caw := awake_ok
  cases hlo : long x with
  | true =>
    rw [hlo] at clo
    obtain ⟨X, hX⟩ : ∃ X, dX x = X := ⟨_, rfl⟩
    rw [hX] at clo ⊢
    refine ACall.enter hT (fn := Try.f5) Try.func5 rfl (by decide) (by simp [Try.f5]) rfl rfl rfl rfl (Nat.le_refl _) ?_
    repeat refine AWp.seq ?_
    refine AWp.reg1 {} hT (fun A hA => by cbv) (Nat.zero_le _) ?_
    try dsimp only [AExit.then, AExit.block]
    repeat refine AWp.seq ?_
    refine AWp.region ?_
    refine AOps.stepCall hT (an := {}) (fun A hA => by cbv) (Nat.zero_le _) rfl (.inr rfl) rfl rfl rfl (Nat.le_of_ble_eq_true rfl) rfl rfl (clo) ?_
    refine AOps.done hT (an := {}) (fun A hA => by cbv) (Nat.zero_le _) ?_
    try dsimp only [AExit.then, AExit.block]
    repeat refine AWp.seq ?_
    refine AWp.cond (b := true) rfl ?_
    rw [if_pos rfl]
    repeat refine AWp.seq ?_
    refine AWp.region ?_
    refine AOps.stepCall hT (an := {}) (fun A hA => by cbv) (Nat.zero_le _) rfl (.inr rfl) rfl rfl rfl (Nat.le_of_ble_eq_true rfl) rfl rfl (caw) ?_
    refine AOps.done hT (an := {}) (fun A hA => by cbv) (Nat.zero_le _) ?_
    try dsimp only [AExit.then, AExit.block]
    repeat refine AWp.seq ?_
    refine AWp.ret ⟨?_, rfl, rfl, Nat.zero_le _, _, rfl⟩
    rfl
  | false =>
    rw [hlo] at clo
    cases hv : valid x with
    | false =>
      rw [hv] at cv
      obtain ⟨X, hX⟩ : ∃ X, dX x = X := ⟨_, rfl⟩
      rw [hX] at clo cv ⊢
      refine ACall.enter hT (fn := Try.f5) Try.func5 rfl (by decide) (by simp [Try.f5]) rfl rfl rfl rfl (Nat.le_refl _) ?_
      repeat refine AWp.seq ?_
      refine AWp.reg1 {} hT (fun A hA => by cbv) (Nat.zero_le _) ?_
      try dsimp only [AExit.then, AExit.block]
      repeat refine AWp.seq ?_
      refine AWp.region ?_
      refine AOps.stepCall hT (an := {}) (fun A hA => by cbv) (Nat.zero_le _) rfl (.inr rfl) rfl rfl rfl (Nat.le_of_ble_eq_true rfl) rfl rfl (clo) ?_
      refine AOps.stepCall hT (an := {}) (fun A hA => by cbv) (Nat.zero_le _) rfl (.inr rfl) rfl rfl rfl (Nat.le_of_ble_eq_true rfl) rfl rfl (cv) ?_
      refine AOps.done hT (an := {}) (fun A hA => by cbv) (Nat.zero_le _) ?_
      try dsimp only [AExit.then, AExit.block]
      repeat refine AWp.seq ?_
      refine AWp.cond (b := true) rfl ?_
      rw [if_pos rfl]
      repeat refine AWp.seq ?_
      refine AWp.region ?_
      refine AOps.stepCall hT (an := {}) (fun A hA => by cbv) (Nat.zero_le _) rfl (.inr rfl) rfl rfl rfl (Nat.le_of_ble_eq_true rfl) rfl rfl (caw) ?_
      refine AOps.done hT (an := {}) (fun A hA => by cbv) (Nat.zero_le _) ?_
      try dsimp only [AExit.then, AExit.block]
      repeat refine AWp.seq ?_
      refine AWp.ret ⟨?_, rfl, rfl, Nat.zero_le _, _, rfl⟩
      rfl
    | true =>
      have hvy := h1 hv
      have h3 := h3 hv
      have h4 := h4 hv
      have hsm := valid_small hv
      have c1 := Turned_ok x hx
      have c2 := Turned_ok (turned x) hyb
      have c3 := sameAccesses_ok x x hx hx
      have c4 := validR_ok (turned x) hyb
      have c5 := Needed_ok x hx (fun h => ⟨valid_small h, Nat.le_trans (stations_48 h) (by omega)⟩)
      have c6 := Needed_ok (turned x) hyb (fun h => ⟨valid_small h, Nat.le_trans (stations_48 h) (by omega)⟩)
      have c7 := Circles_ok x hx
      have c8 := Circles_ok (turned x) hyb
      have hnl : (neededL x).length ≤ 48 := Nat.le_trans (List.length_filter_le _ _) (Nat.le_trans (List.length_filter_le _ _) (stations_48 hv))
      have cin := fun s => in_sta_ok (neededL (turned x)) s (by omega)
      rw [hv] at c1 c5 c7 cv
      rw [hvy] at c2 c4 c6 c8
      rw [h2] at c2
      rw [h4] at c8
      rw [decide_eq_true rfl] at c3
      simp only [if_true] at c1 c2 c5 c6 c7 c8
      have hdx : AV.d (.list 1 ((turned x).map dAccs)) = AV.d (dX (turned x)) := rfl
      have hdx2 : AV.d (.list 1 (x.map dAccs)) = AV.d (dX x) := rfl
      rw [hdx] at c1
      rw [hdx2] at c2
      have hr : ∀ s ∈ neededL x, ∃ (L : List D) (k : Int), 0 ≤ s.1 ∧ s.1 < (x.length : Int) ∧ (x.map dAccs)[s.1.toNat]? = some (.list 2 L) ∧ (L.length : Int) = k ∧ k ≤ 1000 ∧ mir x s = (s.1, k - 1 - s.2.2, k - 1 - s.2.1) ∧ 0 ≤ s.2.1 ∧ s.2.1 < k ∧ 0 ≤ s.2.2 ∧ s.2.2 < k := by
        intro s hs
        have := h6 s hs
        unfold isThere at this
        simp only [Bool.and_eq_true] at this
        obtain ⟨e0, e1, l, e2, e3⟩ := there_get this.1
        obtain ⟨_, g1, l', g2, g3⟩ := there_get this.2
        have : l' = l := by rw [e2] at g2; cases g2; rfl
        subst this
        have hlt := (List.getElem?_eq_some_iff.1 e2).1
        have q1 := (List.getElem?_eq_some_iff.1 e3).1
        have q2 := (List.getElem?_eq_some_iff.1 g3).1
        have q3 := hsm.2 l' (List.mem_of_getElem? e2)
        refine ⟨l'.map dAcc, l'.length, e0, by omega, by rw [List.getElem?_map, e2]; rfl, by simp, by omega, ?_, e1, by omega, g1, by omega⟩
        unfold mir
        rw [List.getD_eq_getElem?_getD, e2]; rfl
      obtain ⟨Y, hY⟩ : ∃ Y, dX (turned x) = Y := ⟨_, rfl⟩
      rw [hY] at c1 c2 c4 c6 c8
      unfold dX at *
      obtain ⟨X, hX⟩ : ∃ X, x.map dAccs = X := ⟨_, rfl⟩
      obtain ⟨n, hn⟩ : ∃ n : Int, (X.length : Int) = n := ⟨_, rfl⟩
      have hxl : (x.length : Int) = n := by rw [← hn, ← hX]; simp
      rw [hxl] at hr
      rw [hX] at clo cv c1 c2 c3 c5 c7 hr ⊢
      obtain ⟨N, hN⟩ : ∃ N : Int, (nCirc x : Int) = N := ⟨_, rfl⟩
      rw [hN] at c7 c8
      obtain ⟨p, hp⟩ : ∃ p, neededL x = p := ⟨_, rfl⟩
      obtain ⟨q, hq⟩ : ∃ p, neededL (turned x) = p := ⟨_, rfl⟩
      rw [hp] at c5 h3 h5 hr hnl
      rw [hq] at c6 h3 h5
      simp only [hq] at cin
      obtain ⟨p', hp'⟩ : ∃ p', p.map dSta = p' := ⟨_, rfl⟩
      obtain ⟨q', hq'⟩ : ∃ p', q.map dSta = p' := ⟨_, rfl⟩
      rw [hp'] at c5
      rw [hq'] at c6
      simp only [hq'] at cin
      obtain ⟨k, hk⟩ : ∃ n : Int, (p'.length : Int) = n := ⟨_, rfl⟩
      have hk' : (q'.length : Int) = k := by rw [← hk, ← hp', ← hq']; simp; omega
      have hpk : (p.length : Int) = k := by rw [← hk, ← hp']; simp
      refine ACall.enter hT (fn := Try.f5) Try.func5 rfl (by decide) (by simp [Try.f5]) rfl rfl rfl rfl (Nat.le_refl _) ?_
      repeat refine AWp.seq ?_
      refine AWp.reg1 {} hT (fun A hA => by cbv) (Nat.zero_le _) ?_
      try dsimp only [AExit.then, AExit.block]
      repeat refine AWp.seq ?_
      refine AWp.region ?_
      refine AOps.stepCall hT (an := {}) (fun A hA => by cbv) (Nat.zero_le _) rfl (.inr rfl) rfl rfl rfl (Nat.le_of_ble_eq_true rfl) rfl rfl (clo) ?_
      refine AOps.stepCall hT (an := {}) (fun A hA => by cbv) (Nat.zero_le _) rfl (.inr rfl) rfl rfl rfl (Nat.le_of_ble_eq_true rfl) rfl rfl (cv) ?_
      refine AOps.done hT (an := {}) (fun A hA => by cbv) (Nat.zero_le _) ?_
      try dsimp only [AExit.then, AExit.block]
      repeat refine AWp.seq ?_
      refine AWp.cond (b := false) rfl (AWp.skip ?_)
      try dsimp only [AExit.then, AExit.block]
      repeat refine AWp.seq ?_
      refine AWp.region ?_
      refine AOps.stepCall hT (an := {}) (fun A hA => by cbv) (Nat.zero_le _) rfl (.inr rfl) rfl rfl rfl (Nat.le_of_ble_eq_true rfl) rfl rfl (c1) ?_
      refine AOps.done hT (an := {}) (fun A hA => by cbv) (Nat.zero_le _) ?_
      try dsimp only [AExit.then, AExit.block]
      repeat refine AWp.seq ?_
      refine AWp.region ?_
      refine AOps.stepCall hT (an := {}) (fun A hA => by cbv) (Nat.zero_le _) rfl (.inr rfl) rfl rfl rfl (Nat.le_of_ble_eq_true rfl) rfl rfl (c2) ?_
      refine AOps.done hT (an := {}) (fun A hA => by cbv) (Nat.zero_le _) ?_
      try dsimp only [AExit.then, AExit.block]
      repeat refine AWp.seq ?_
      refine AWp.region ?_
      refine AOps.stepCall hT (an := {}) (fun A hA => by
          have f0 := ar_eq hA (rfl : (0 : Int) = 0)
          repeat (cbv; simp only [f0])
          cbv) (Nat.zero_le _) rfl (.inr rfl) rfl rfl rfl (Nat.le_of_ble_eq_true rfl) rfl rfl (c3) ?_
      refine AOps.stepCall hT (an := {}) (fun A hA => by cbv) (Nat.zero_le _) rfl (.inr rfl) rfl rfl rfl (Nat.le_of_ble_eq_true rfl) rfl rfl (c4) ?_
      refine AOps.done hT (an := {}) (fun A hA => by cbv) (Nat.zero_le _) ?_
      try dsimp only [AExit.then, AExit.block]
      repeat refine AWp.seq ?_
      refine AWp.cond (b := false) rfl (AWp.skip ?_)
      try dsimp only [AExit.then, AExit.block]
      repeat refine AWp.seq ?_
      refine AWp.region ?_
      refine AOps.stepCall hT (an := {}) (fun A hA => by cbv) (Nat.zero_le _) rfl (.inr rfl) rfl rfl rfl (Nat.le_of_ble_eq_true rfl) rfl rfl (c5) ?_
      refine AOps.done hT (an := {}) (fun A hA => by cbv) (Nat.zero_le _) ?_
      try dsimp only [AExit.then, AExit.block]
      repeat refine AWp.seq ?_
      refine AWp.region ?_
      refine AOps.stepCall hT (an := {}) (fun A hA => by cbv) (Nat.zero_le _) rfl (.inr rfl) rfl rfl rfl (Nat.le_of_ble_eq_true rfl) rfl rfl (c6) ?_
      refine AOps.done hT (an := {}) (fun A hA => by cbv) (Nat.zero_le _) ?_
      try dsimp only [AExit.then, AExit.block]
      repeat refine AWp.seq ?_
      refine AWp.region ?_
      refine AOps.stepCall hT (an := {}) (fun A hA => by cbv) (Nat.zero_le _) rfl (.inr rfl) rfl rfl rfl (Nat.le_of_ble_eq_true rfl) rfl rfl (c7) ?_
      refine AOps.done hT (an := {}) (fun A hA => by cbv) (Nat.zero_le _) ?_
      try dsimp only [AExit.then, AExit.block]
      repeat refine AWp.seq ?_
      refine AWp.region ?_
      refine AOps.stepCall hT (an := {}) (fun A hA => by cbv) (Nat.zero_le _) rfl (.inr rfl) rfl rfl rfl (Nat.le_of_ble_eq_true rfl) rfl rfl (c8) ?_
      refine AOps.done hT (an := {}) (fun A hA => by cbv) (Nat.zero_le _) ?_
      try dsimp only [AExit.then, AExit.block]
      repeat refine AWp.seq ?_
      refine AWp.reg1 {} hT (fun A hA => by
          have f0 := ar_eq hA (rfl : (0 : Int) = 0)
          have f1 := ar_len hA p' k hk
          have f2 := ar_len hA q' k hk'
          have f3 := ar_eq hA (rfl : k = k)
          have f4 := ar_eq hA (rfl : N = N)
          repeat (cbv; simp only [f0, f1, f2, f3, f4])
          cbv) (Nat.zero_le _) ?_
      try dsimp only [AExit.then, AExit.block]
      repeat refine AWp.seq ?_
      refine AWp.cond (b := false) rfl (AWp.skip ?_)
      try dsimp only [AExit.then, AExit.block]
      repeat refine AWp.seq ?_
      refine AWp.reg1 {} hT (fun A hA => by
          have f0 := ar_len hA p' k hk
          repeat (cbv; simp only [f0])
          cbv) (Nat.zero_le _) ?_
      try dsimp only [AExit.then, AExit.block]
      refine AWp.block (AWp.loopInv (ι := Int) (fun z => 0 ≤ z ∧ z ≤ k) (fun z => (k - z).toNat) [0, 8, 97, 98, 99]
        (fun z => { env := [(0, .d (.list 1 X)), (8, .d (.list 3 q')), (97, .d (.list 3 p')), (98, AI k), (99, AI z)], heap := [], n := 136 }) 0 (by cbv) ⟨Int.le_refl _, by omega⟩ ?_)
      rintro z ⟨z0, zk⟩
      by_cases hz : z < k
      · obtain ⟨z1, hz1⟩ : ∃ z1, z + 1 = z1 := ⟨_, rfl⟩
        obtain ⟨s, hs⟩ : ∃ s, p[z.toNat]? = some s := ⟨_, List.getElem?_eq_getElem (by omega)⟩
        obtain ⟨L, m, e0, e1, e2, e3, e4, e5, e6, e7, e8, e9⟩ := hr s (List.mem_of_getElem? hs)
        have hc := cin (mir x s)
        rw [h5 s (List.mem_of_getElem? hs), e5] at hc
        obtain ⟨t, a, b⟩ := s
        unfold dSta at hc
        dsimp only at e0 e1 e2 e6 e7 e8 e9 hc
        have hPs : p'[z.toNat]? = some (.agg [I t, I a, I b]) := by rw [← hp', List.getElem?_map, hs]; rfl
        obtain ⟨m1, hm1⟩ : ∃ m1, m - 1 = m1 := ⟨_, rfl⟩
        obtain ⟨b1, hb1⟩ : ∃ m2, m1 - b = m2 := ⟨_, rfl⟩
        obtain ⟨a1, ha1⟩ : ∃ m2, m1 - a = m2 := ⟨_, rfl⟩
        rw [hm1, hb1, ha1] at hc
        repeat refine AWp.seq ?_
        refine AWp.reg1 {} hT (fun A hA => by
            have f0 := ar_lt hA hz
            repeat (cbv; simp only [f0])
            cbv) (Nat.zero_le _) ?_
        try dsimp only [AExit.then, AExit.block]
        repeat refine AWp.seq ?_
        refine AWp.cond (b := true) rfl (AWp.skip ?_)
        try dsimp only [AExit.then, AExit.block]
        repeat refine AWp.seq ?_
        refine AWp.block ?_
        repeat refine AWp.seq ?_
        refine AWp.reg1 {} hT (fun A hA => by
            have f0 := ar_get hA hPs
            have f1 := ar_le hA z0
            repeat (cbv; simp only [f0, f1])
            cbv) (Nat.zero_le _) ?_
        try dsimp only [AExit.then, AExit.block]
        repeat refine AWp.seq ?_
        refine AWp.reg1 {} hT (fun A hA => by
            have f0 := ar_nlt hA (show ¬ t < 0 by omega)
            have f1 := ar_len hA X n hn
            have f2 := ar_nle hA (show ¬ n ≤ t by omega)
            repeat (cbv; simp only [f0, f1, f2])
            cbv) (Nat.zero_le _) ?_
        try dsimp only [AExit.then, AExit.block]
        repeat refine AWp.seq ?_
        refine AWp.cond (b := false) rfl (AWp.skip ?_)
        try dsimp only [AExit.then, AExit.block]
        repeat refine AWp.seq ?_
        refine AWp.reg1 {} hT (fun A hA => by
            have f0 := ar_get hA e2
            have f1 := ar_le hA e0
            have f2 := ar_len hA L m e3
            have f3 := ar_sub hA m 1 m1 hm1 (by omega) (by omega)
            repeat (cbv; simp only [f0, f1, f2, f3])
            cbv) (Nat.zero_le _) ?_
        try dsimp only [AExit.then, AExit.block]
        repeat refine AWp.seq ?_
        refine AWp.region ?_
        refine AOps.stepCall hT (an := {}) (fun A hA => by
            have f0 := ar_sub hA m1 b b1 hb1 (by omega) (by omega)
            have f1 := ar_sub hA m1 a a1 ha1 (by omega) (by omega)
            repeat (cbv; simp only [f0, f1])
            cbv) (Nat.zero_le _) rfl (.inr rfl) rfl rfl rfl (Nat.le_of_ble_eq_true rfl) rfl rfl (hc) ?_
        refine AOps.done hT (an := {}) (fun A hA => by cbv) (Nat.zero_le _) ?_
        try dsimp only [AExit.then, AExit.block]
        repeat refine AWp.seq ?_
        refine AWp.cond (b := false) rfl (AWp.skip ?_)
        try dsimp only [AExit.then, AExit.block]
        repeat refine AWp.seq ?_
        refine AWp.reg1 {} hT (fun A hA => by
            have f0 := ar_add hA z 1 z1 hz1 (by omega) (by omega)
            repeat (cbv; simp only [f0])
            cbv) (Nat.zero_le _) ?_
        try dsimp only [AExit.then, AExit.block]
        exact ⟨z1, ⟨by omega, by omega⟩, by omega, by cbv⟩
      · repeat refine AWp.seq ?_
        refine AWp.reg1 {} hT (fun A hA => by
            have f0 := ar_nlt hA hz
            repeat (cbv; simp only [f0])
            cbv) (Nat.zero_le _) ?_
        try dsimp only [AExit.then, AExit.block]
        repeat refine AWp.seq ?_
        refine AWp.cond (b := false) rfl (AWp.exit ?_)
        try dsimp only [AExit.then, AExit.block]
        rw [if_pos rfl]
        repeat refine AWp.seq ?_
        refine AWp.region ?_
        refine AOps.stepCall hT (an := {}) (fun A hA => by cbv) (Nat.zero_le _) rfl (.inr rfl) rfl rfl rfl (Nat.le_of_ble_eq_true rfl) rfl rfl (caw) ?_
        refine AOps.done hT (an := {}) (fun A hA => by cbv) (Nat.zero_le _) ?_
        try dsimp only [AExit.then, AExit.block]
        repeat refine AWp.seq ?_
        refine AWp.ret ⟨?_, rfl, rfl, Nat.zero_le _, _, rfl⟩
        rfl
end Go.Am
