/- Own text: D1vd. -/
import Derived.Test.YtalfdjihejohoaaD1vc
set_option maxRecDepth 100000
set_option linter.unusedVariables false
set_option linter.unusedSimpArgs false
namespace Go.Am
open Go Go.Proofs

theorem DelayNeeded_ok (x : List (List Acc)) (c : List Sta) (hx : Big x) (hc : c.length ≤ 9223372036854775807) : ACall P 7 [.d (dX x), .d (.list 3 (c.map dSta))] [] (AB true) [] := by
  have clo := long_ok x hx
  have cv := validR_ok x hx
  have caw := awake_ok
  have cic := IsCircle_ok x c hx hc
  have call0 := fun p hp => all_ok p c hp hc
  obtain ⟨C, hC⟩ : ∃ C, c.map dSta = C := ⟨_, rfl⟩
  obtain ⟨m, hm⟩ : ∃ n : Int, (C.length : Int) = n := ⟨_, rfl⟩
  have hcm : (c.length : Int) = m := by rw [← hm, ← hC]; simp
  rw [hC] at cic ⊢
  simp only [hC] at call0
  cases hlo : long x with
  | true =>
    rw [hlo] at clo
    obtain ⟨X, hX⟩ : ∃ X, dX x = X := ⟨_, rfl⟩
    rw [hX] at clo ⊢
    refine ACall.enter hT (fn := Try.f7) Try.func7 rfl (by decide) (by simp [Try.f7]) rfl rfl rfl rfl (Nat.le_refl _) ?_
    repeat refine AWp.seq ?_
    refine AWp.reg1 {} hT (fun A hA => by cbv) (Nat.zero_le _) ?_
    try dsimp only [AExit.then, AExit.block]
    repeat refine AWp.seq ?_
    refine AWp.region ?_
    refine AOps.stepCall hT (an := {}) (fun A hA => by cbv) (Nat.zero_le _) rfl (.inr rfl) rfl rfl rfl (Nat.le_of_ble_eq_true rfl) rfl rfl (clo) ?_
    refine AOps.done hT (an := {}) (fun A hA => by cbv) (Nat.zero_le _) ?_
    try dsimp only [AExit.then, AExit.block]
    repeat refine AWp.seq ?_
    refine AWp.cond (b := true) rfl ?_
    rw [if_pos rfl]
    repeat refine AWp.seq ?_
    refine AWp.region ?_
    refine AOps.stepCall hT (an := {}) (fun A hA => by cbv) (Nat.zero_le _) rfl (.inr rfl) rfl rfl rfl (Nat.le_of_ble_eq_true rfl) rfl rfl (caw) ?_
    refine AOps.done hT (an := {}) (fun A hA => by cbv) (Nat.zero_le _) ?_
    try dsimp only [AExit.then, AExit.block]
    repeat refine AWp.seq ?_
    refine AWp.ret ⟨?_, rfl, rfl, Nat.zero_le _, _, rfl⟩
    rfl
  | false =>
    rw [hlo] at clo
    cases hv : valid x with
    | false =>
      rw [hv] at cv
      obtain ⟨X, hX⟩ : ∃ X, dX x = X := ⟨_, rfl⟩
      rw [hX] at clo cv ⊢
      refine ACall.enter hT (fn := Try.f7) Try.func7 rfl (by decide) (by simp [Try.f7]) rfl rfl rfl rfl (Nat.le_refl _) ?_
      repeat refine AWp.seq ?_
      refine AWp.reg1 {} hT (fun A hA => by cbv) (Nat.zero_le _) ?_
      try dsimp only [AExit.then, AExit.block]
      repeat refine AWp.seq ?_
      refine AWp.region ?_
      refine AOps.stepCall hT (an := {}) (fun A hA => by cbv) (Nat.zero_le _) rfl (.inr rfl) rfl rfl rfl (Nat.le_of_ble_eq_true rfl) rfl rfl (clo) ?_
      refine AOps.stepCall hT (an := {}) (fun A hA => by cbv) (Nat.zero_le _) rfl (.inr rfl) rfl rfl rfl (Nat.le_of_ble_eq_true rfl) rfl rfl (cv) ?_
      refine AOps.done hT (an := {}) (fun A hA => by cbv) (Nat.zero_le _) ?_
      try dsimp only [AExit.then, AExit.block]
      repeat refine AWp.seq ?_
      refine AWp.cond (b := true) rfl ?_
      rw [if_pos rfl]
      repeat refine AWp.seq ?_
      refine AWp.region ?_
      refine AOps.stepCall hT (an := {}) (fun A hA => by cbv) (Nat.zero_le _) rfl (.inr rfl) rfl rfl rfl (Nat.le_of_ble_eq_true rfl) rfl rfl (caw) ?_
      refine AOps.done hT (an := {}) (fun A hA => by cbv) (Nat.zero_le _) ?_
      try dsimp only [AExit.then, AExit.block]
      repeat refine AWp.seq ?_
      refine AWp.ret ⟨?_, rfl, rfl, Nat.zero_le _, _, rfl⟩
      rfl
    | true =>
      by_cases hm20 : 20 < m
      · rw [hv] at cv
        obtain ⟨X, hX⟩ : ∃ X, dX x = X := ⟨_, rfl⟩
        rw [hX] at clo cv ⊢
        refine ACall.enter hT (fn := Try.f7) Try.func7 rfl (by decide) (by simp [Try.f7]) rfl rfl rfl rfl (Nat.le_refl _) ?_
        repeat refine AWp.seq ?_
        refine AWp.reg1 {} hT (fun A hA => by cbv) (Nat.zero_le _) ?_
        try dsimp only [AExit.then, AExit.block]
        repeat refine AWp.seq ?_
        refine AWp.region ?_
        refine AOps.stepCall hT (an := {}) (fun A hA => by cbv) (Nat.zero_le _) rfl (.inr rfl) rfl rfl rfl (Nat.le_of_ble_eq_true rfl) rfl rfl (clo) ?_
        refine AOps.stepCall hT (an := {}) (fun A hA => by cbv) (Nat.zero_le _) rfl (.inr rfl) rfl rfl rfl (Nat.le_of_ble_eq_true rfl) rfl rfl (cv) ?_
        refine AOps.done hT (an := {}) (fun A hA => by
            have f0 := ar_len hA C m hm
            have f1 := ar_lt hA hm20
            repeat (cbv; simp only [f0, f1])
            cbv) (Nat.zero_le _) ?_
        try dsimp only [AExit.then, AExit.block]
        repeat refine AWp.seq ?_
        refine AWp.cond (b := true) rfl ?_
        rw [if_pos rfl]
        repeat refine AWp.seq ?_
        refine AWp.region ?_
        refine AOps.stepCall hT (an := {}) (fun A hA => by cbv) (Nat.zero_le _) rfl (.inr rfl) rfl rfl rfl (Nat.le_of_ble_eq_true rfl) rfl rfl (caw) ?_
        refine AOps.done hT (an := {}) (fun A hA => by cbv) (Nat.zero_le _) ?_
        try dsimp only [AExit.then, AExit.block]
        repeat refine AWp.seq ?_
        refine AWp.ret ⟨?_, rfl, rfl, Nat.zero_le _, _, rfl⟩
        rfl
      have hsm := valid_small hv
      have c5 := Needed_ok x hx (fun h => ⟨valid_small h, Nat.le_trans (stations_48 h) (by omega)⟩)
      have c6 := Pairs_ok x hx (fun h => ⟨valid_small h, Nat.le_trans (stations_48 h) (by omega)⟩)
      have c7 := Circles_ok x hx
      have hnl : (neededL x).length ≤ 48 := Nat.le_trans (List.length_filter_le _ _) (Nat.le_trans (List.length_filter_le _ _) (stations_48 hv))
      have hpl : (pairsL x).length ≤ 48 := Nat.le_trans (List.length_filter_le _ _) (stations_48 hv)
      have cinp := fun s => in_sta_ok (pairsL x) s (by omega)
      rw [hv] at c5 c6 c7 cv cic
      simp only [if_true] at c5 c6 c7 cic
      have hcirc : ∀ s ∈ neededL x, ∃ l : List Sta, l.length ≤ 3 ∧ l.contains s = true ∧ (pairsL x).contains s = true ∧ ACall P 33 [.d (dX x), .d (dSta s)] [] (.tuple [.d (.list 3 (l.map dSta)), AI 0]) [] ∧
          ACall P 29 [.d (dX x), .d (.list 3 (l.map dSta))] [] (.tuple [AB true, AI 0]) [] ∧ ACall P 36 [.d (.list 3 ((neededL x).map dSta)), .d (.list 3 (l.map dSta))] [] (AB true) [] := by
        intro s hs
        obtain ⟨h1, h2⟩ := needed_pairs hs
        obtain ⟨l, hf, hl, hls⟩ := needed_find hs
        have h3 := (mem_circles_iff.1 hl).2.1
        have k1 := Circle_ok x s hx
        unfold circT at k1
        rw [if_pos hv, if_pos h2, hf] at k1
        have k2 := IsCircle_ok x l hx (by omega)
        rw [if_pos hv, circles_isCircF.1 hl] at k2
        have k3 := all_ok (neededL x) l (by omega) (by omega)
        rw [circle_allIn hl] at k3
        exact ⟨l, h3, hls, h1, k1, k2, k3⟩
      have hnext := needed_next x
      have hearl := earlier_ok
      have hzero := needed_zero x
      have hfin : isCircF x c = true → 0 < (circles x).length ∧ ACall P 36 [.d (.list 3 ((neededL x).map dSta)), .d (.list 3 C)] [] (AB true) [] := by
        intro h
        have h' := circles_isCircF.2 h
        have k3 := call0 (neededL x) (by omega)
        rw [circle_allIn h'] at k3
        exact ⟨List.length_pos_of_mem h', k3⟩
      obtain ⟨F, hF⟩ : ∃ F, isCircF x c = F := ⟨_, rfl⟩
      rw [hF] at cic hfin
      have cinl := fun (l : List Sta) (s : Sta) (h : l.length ≤ 3) => in_sta_ok l s (by omega)
      obtain ⟨X, hX⟩ : ∃ X, dX x = X := ⟨_, rfl⟩
      rw [hX] at clo cv c5 c6 c7 cic ⊢
      simp only [hX] at hcirc
      obtain ⟨N, hN⟩ : ∃ N : Int, (nCirc x : Int) = N := ⟨_, rfl⟩
      rw [hN] at c7
      have hNc : ((circles x).length : Int) = N := hN
      obtain ⟨p, hp⟩ : ∃ p, neededL x = p := ⟨_, rfl⟩
      obtain ⟨q, hq⟩ : ∃ p, pairsL x = p := ⟨_, rfl⟩
      rw [hp] at c5 hnl hcirc hnext hzero hfin
      rw [hq] at c6 hpl hcirc
      simp only [hq] at cinp
      obtain ⟨p', hp'⟩ : ∃ p', p.map dSta = p' := ⟨_, rfl⟩
      obtain ⟨q', hq'⟩ : ∃ p', q.map dSta = p' := ⟨_, rfl⟩
      rw [hp'] at c5 hcirc hfin
      rw [hq'] at c6
      simp only [hq'] at cinp
      obtain ⟨k, hk⟩ : ∃ n : Int, (p'.length : Int) = n := ⟨_, rfl⟩
      have hpk : (p.length : Int) = k := by rw [← hk, ← hp']; simp
      obtain ⟨z0, hz0⟩ : ∃ b, decide (N = 0) = b := ⟨_, rfl⟩
      have hz0' : decide (k = 0) = z0 := by
        rw [← hz0]
        by_cases h : N = 0
        · have : k = 0 := by have := hzero.1 (by omega); omega
          simp [h, this]
        · have : k ≠ 0 := fun hk0 => h (by have := hzero.2 (by omega); omega)
          simp [h, this]
      have e1 : ∀ A : Ar, A = Ar.std → A.zeq N 0 = z0 := fun A hA => by subst hA; exact hz0
      have e2 : ∀ A : Ar, A = Ar.std → A.zeq k 0 = z0 := fun A hA => by subst hA; exact hz0'
      have e3 : ∀ A : Ar, A = Ar.std → A.beq z0 z0 = true := fun A hA => ar_beq hA (by simp)
      refine ACall.enter hT (fn := Try.f7) Try.func7 rfl (by decide) (by simp [Try.f7]) rfl rfl rfl rfl (Nat.le_refl _) ?_
      repeat refine AWp.seq ?_
      refine AWp.reg1 {} hT (fun A hA => by cbv) (Nat.zero_le _) ?_
      try dsimp only [AExit.then, AExit.block]
      repeat refine AWp.seq ?_
      refine AWp.region ?_
      refine AOps.stepCall hT (an := {}) (fun A hA => by cbv) (Nat.zero_le _) rfl (.inr rfl) rfl rfl rfl (Nat.le_of_ble_eq_true rfl) rfl rfl (clo) ?_
      refine AOps.stepCall hT (an := {}) (fun A hA => by cbv) (Nat.zero_le _) rfl (.inr rfl) rfl rfl rfl (Nat.le_of_ble_eq_true rfl) rfl rfl (cv) ?_
      refine AOps.done hT (an := {}) (fun A hA => by
          have f0 := ar_len hA C m hm
          have f1 := ar_nlt hA hm20
          repeat (cbv; simp only [f0, f1])
          cbv) (Nat.zero_le _) ?_
      try dsimp only [AExit.then, AExit.block]
      repeat refine AWp.seq ?_
      refine AWp.cond (b := false) rfl (AWp.skip ?_)
      try dsimp only [AExit.then, AExit.block]
      repeat refine AWp.seq ?_
      refine AWp.region ?_
      refine AOps.stepCall hT (an := {}) (fun A hA => by cbv) (Nat.zero_le _) rfl (.inr rfl) rfl rfl rfl (Nat.le_of_ble_eq_true rfl) rfl rfl (c5) ?_
      refine AOps.done hT (an := {}) (fun A hA => by cbv) (Nat.zero_le _) ?_
      try dsimp only [AExit.then, AExit.block]
      repeat refine AWp.seq ?_
      refine AWp.region ?_
      refine AOps.stepCall hT (an := {}) (fun A hA => by cbv) (Nat.zero_le _) rfl (.inr rfl) rfl rfl rfl (Nat.le_of_ble_eq_true rfl) rfl rfl (c6) ?_
      refine AOps.done hT (an := {}) (fun A hA => by cbv) (Nat.zero_le _) ?_
      try dsimp only [AExit.then, AExit.block]
      repeat refine AWp.seq ?_
      refine AWp.region ?_
      refine AOps.stepCall hT (an := {}) (fun A hA => by cbv) (Nat.zero_le _) rfl (.inr rfl) rfl rfl rfl (Nat.le_of_ble_eq_true rfl) rfl rfl (c7) ?_
      refine AOps.done hT (an := {}) (fun A hA => by cbv) (Nat.zero_le _) ?_
      try dsimp only [AExit.then, AExit.block]
      repeat refine AWp.seq ?_
      refine AWp.reg1 {} hT (fun A hA => by
          have f0 := ar_eq hA (rfl : (0 : Int) = 0)
          have f1 := ar_len hA p' k hk
          have f2 := e1 A hA
          have f3 := e2 A hA
          have f4 := e3 A hA
          repeat (cbv; simp only [f0, f1, f2, f3, f4])
          cbv) (Nat.zero_le _) ?_
      try dsimp only [AExit.then, AExit.block]
      repeat refine AWp.seq ?_
      refine AWp.cond (b := false) rfl (AWp.skip ?_)
      try dsimp only [AExit.then, AExit.block]
      repeat refine AWp.seq ?_
      refine AWp.reg1 {} hT (fun A hA => by
          have f0 := ar_len hA p' k hk
          repeat (cbv; simp only [f0])
          cbv) (Nat.zero_le _) ?_
      try dsimp only [AExit.then, AExit.block]
      refine AWp.block (AWp.loopInv (ι := Int) (fun z => 0 ≤ z ∧ z ≤ k) (fun z => (k - z).toNat) [0, 1, 5, 7, 9, 64, 65, 66]
        (fun z => { env := [(0, .d X), (1, .d (.list 3 C)), (5, .d (.list 3 p')), (7, .d (.list 3 q')), (9, AI N), (64, .d (.list 3 p')), (65, AI k), (66, AI z)], heap := [], n := 150 }) 0 (by cbv) ⟨Int.le_refl _, by omega⟩ ?_)
      rintro z ⟨h0, h1⟩
      by_cases hz : z < k
      · obtain ⟨z1, hz1⟩ : ∃ z1, z + 1 = z1 := ⟨_, rfl⟩
        obtain ⟨s, hs⟩ : ∃ s, p[z.toNat]? = some s := ⟨_, List.getElem?_eq_getElem (by omega)⟩
        obtain ⟨l, hl3, hls, hqs, k1, k2, k3⟩ := hcirc s (List.mem_of_getElem? hs)
        have k4 := cinl l s hl3
        have k5 := cinp s
        rw [hls] at k4
        rw [hqs] at k5
        have hps : p'[z.toNat]? = some (dSta s) := by rw [← hp', List.getElem?_map, hs]; rfl
        have hprev : 0 < z → ∃ r : Sta, p'[(z - 1).toNat]? = some (.agg [I r.1, I r.2.1, I r.2.2]) ∧ ACall P 35 [.d (.agg [I r.1, I r.2.1, I r.2.2]), .d (dSta s)] [] (AB true) [] := fun h => by
          obtain ⟨r, hr⟩ : ∃ s, p[(z - 1).toNat]? = some s := ⟨_, List.getElem?_eq_getElem (by omega)⟩
          have k := hearl r s
          rw [hnext (z - 1).toNat r s hr (by rw [show (z - 1).toNat + 1 = z.toNat by omega]; exact hs)] at k
          exact ⟨r, by rw [← hp', List.getElem?_map, hr]; rfl, k⟩
        obtain ⟨t, a, b⟩ := s
        unfold dSta at hps k1 k4 k5 hprev
        dsimp only at hps k1 k4 k5 hprev
        have hfun : (fun s : Sta => D.agg [I s.1, I s.2.1, I s.2.2]) = dSta := rfl
        rw [hfun] at k1 k4
        obtain ⟨L, hL⟩ : ∃ L, l.map dSta = L := ⟨_, rfl⟩
        rw [hL] at k1 k2 k3 k4
        repeat refine AWp.seq ?_
        refine AWp.reg1 {} hT (fun A hA => by
            have f0 := ar_lt hA hz
            repeat (cbv; simp only [f0])
            cbv) (Nat.zero_le _) ?_
        try dsimp only [AExit.then, AExit.block]
        repeat refine AWp.seq ?_
        refine AWp.cond (b := true) rfl (AWp.skip ?_)
        try dsimp only [AExit.then, AExit.block]
        repeat refine AWp.seq ?_
        refine AWp.block ?_
        repeat refine AWp.seq ?_
        refine AWp.reg1 {} hT (fun A hA => by
            have f0 := ar_get hA hps
            have f1 := ar_le hA h0
            repeat (cbv; simp only [f0, f1])
            cbv) (Nat.zero_le _) ?_
        try dsimp only [AExit.then, AExit.block]
        repeat refine AWp.seq ?_
        refine AWp.region ?_
        refine AOps.stepCall hT (an := {}) (fun A hA => by cbv) (Nat.zero_le _) rfl (.inr rfl) rfl rfl rfl (Nat.le_of_ble_eq_true rfl) rfl rfl (k1) ?_
        refine AOps.done hT (an := {}) (fun A hA => by cbv) (Nat.zero_le _) ?_
        try dsimp only [AExit.then, AExit.block]
        repeat refine AWp.seq ?_
        refine AWp.region ?_
        refine AOps.stepCall hT (an := {}) (fun A hA => by cbv) (Nat.zero_le _) rfl (.inr rfl) rfl rfl rfl (Nat.le_of_ble_eq_true rfl) rfl rfl (k2) ?_
        refine AOps.done hT (an := {}) (fun A hA => by cbv) (Nat.zero_le _) ?_
        try dsimp only [AExit.then, AExit.block]
        by_cases hz0 : 0 < z
        · obtain ⟨⟨t', a', b'⟩, hr, k6⟩ := hprev hz0
          dsimp only at hr k6
          obtain ⟨y, hy⟩ : ∃ y, z - 1 = y := ⟨_, rfl⟩
          rw [hy] at hr
          repeat refine AWp.seq ?_
          refine AWp.regionDraw rfl (Nat.zero_le _) ?_
          refine DOps.stepCall hT (an := {}) rfl (fun A hA => by
              have f0 := ar_eq hA (rfl : (0 : Int) = 0)
              repeat (cbv; simp only [f0])
              cbv) rfl rfl (Nat.le_of_ble_eq_true rfl) rfl rfl (k4) ?_
          refine DOps.stepCall hT (an := {}) rfl (fun A hA => by cbv) rfl rfl (Nat.le_of_ble_eq_true rfl) rfl rfl (k5) ?_
          refine DOps.stepCall hT (an := {}) rfl (fun A hA => by
              have f0 := ar_lt hA hz0
              have f1 := ar_sub hA z 1 y hy (by omega) (by omega)
              have f2 := ar_get hA hr
              have f3 := ar_le hA (show 0 ≤ y by omega)
              repeat (cbv; simp only [f0, f1, f2, f3])
              cbv) rfl rfl (Nat.le_of_ble_eq_true rfl) rfl rfl (k6) ?_
          refine DOps.stepCall hT (an := {}) rfl (fun A hA => by cbv) rfl rfl (Nat.le_of_ble_eq_true rfl) rfl rfl (k3) ?_
          refine DOps.done hT (an := {}) rfl (fun A hA => by cbv) (by kernel_rfl) ?_
          try dsimp only [AExit.then, AExit.block]
          repeat refine AWp.seq ?_
          refine AWp.cond (b := false) rfl (AWp.skip ?_)
          try dsimp only [AExit.then, AExit.block]
          repeat refine AWp.seq ?_
          refine AWp.reg1 {} hT (fun A hA => by
              have f0 := ar_add hA z 1 z1 hz1 (by omega) (by omega)
              repeat (cbv; simp only [f0])
              cbv) (Nat.zero_le _) ?_
          try dsimp only [AExit.then, AExit.block]
          exact ⟨z1, ⟨by omega, by omega⟩, by omega, by cbv⟩
        · repeat refine AWp.seq ?_
          refine AWp.regionDraw rfl (Nat.zero_le _) ?_
          refine DOps.stepCall hT (an := {}) rfl (fun A hA => by
              have f0 := ar_eq hA (rfl : (0 : Int) = 0)
              repeat (cbv; simp only [f0])
              cbv) rfl rfl (Nat.le_of_ble_eq_true rfl) rfl rfl (k4) ?_
          refine DOps.stepCall hT (an := {}) rfl (fun A hA => by cbv) rfl rfl (Nat.le_of_ble_eq_true rfl) rfl rfl (k5) ?_
          refine DOps.stepCall hT (an := {}) rfl (fun A hA => by
              have f0 := ar_nlt hA hz0
              repeat (cbv; simp only [f0])
              cbv) rfl rfl (Nat.le_of_ble_eq_true rfl) rfl rfl (k3) ?_
          refine DOps.done hT (an := {}) rfl (fun A hA => by cbv) (by kernel_rfl) ?_
          try dsimp only [AExit.then, AExit.block]
          repeat refine AWp.seq ?_
          refine AWp.cond (b := false) rfl (AWp.skip ?_)
          try dsimp only [AExit.then, AExit.block]
          repeat refine AWp.seq ?_
          refine AWp.reg1 {} hT (fun A hA => by
              have f0 := ar_add hA z 1 z1 hz1 (by omega) (by omega)
              repeat (cbv; simp only [f0])
              cbv) (Nat.zero_le _) ?_
          try dsimp only [AExit.then, AExit.block]
          exact ⟨z1, ⟨by omega, by omega⟩, by omega, by cbv⟩
      · repeat refine AWp.seq ?_
        refine AWp.reg1 {} hT (fun A hA => by
            have f0 := ar_nlt hA hz
            repeat (cbv; simp only [f0])
            cbv) (Nat.zero_le _) ?_
        try dsimp only [AExit.then, AExit.block]
        repeat refine AWp.seq ?_
        refine AWp.cond (b := false) rfl (AWp.exit ?_)
        try dsimp only [AExit.then, AExit.block]
        rw [if_pos rfl]
        repeat refine AWp.seq ?_
        refine AWp.region ?_
        refine AOps.stepCall hT (an := {}) (fun A hA => by cbv) (Nat.zero_le _) rfl (.inr rfl) rfl rfl rfl (Nat.le_of_ble_eq_true rfl) rfl rfl (cic) ?_
        refine AOps.done hT (an := {}) (fun A hA => by cbv) (Nat.zero_le _) ?_
        try dsimp only [AExit.then, AExit.block]
        cases F with
        | true =>
          obtain ⟨g1, g2⟩ := hfin rfl
          repeat refine AWp.seq ?_
          refine AWp.region ?_
          refine AOps.stepCall hT (an := {}) (fun A hA => by
              have f0 := ar_eq hA (rfl : (0 : Int) = 0)
              have f1 := ar_lt hA (show 0 < N by omega)
              repeat (cbv; simp only [f0, f1])
              cbv) (Nat.zero_le _) rfl (.inr rfl) rfl rfl rfl (Nat.le_of_ble_eq_true rfl) rfl rfl (g2) ?_
          refine AOps.stepCall hT (an := {}) (fun A hA => by cbv) (Nat.zero_le _) rfl (.inr rfl) rfl rfl rfl (Nat.le_of_ble_eq_true rfl) rfl rfl (caw) ?_
          refine AOps.done hT (an := {}) (fun A hA => by cbv) (Nat.zero_le _) ?_
          try dsimp only [AExit.then, AExit.block]
          repeat refine AWp.seq ?_
          refine AWp.ret ⟨?_, rfl, rfl, Nat.zero_le _, _, rfl⟩
          rfl
        | false =>
          repeat refine AWp.seq ?_
          refine AWp.region ?_
          refine AOps.stepCall hT (an := {}) (fun A hA => by
              have f0 := ar_eq hA (rfl : (0 : Int) = 0)
              repeat (cbv; simp only [f0])
              cbv) (Nat.zero_le _) rfl (.inr rfl) rfl rfl rfl (Nat.le_of_ble_eq_true rfl) rfl rfl (caw) ?_
          refine AOps.done hT (an := {}) (fun A hA => by cbv) (Nat.zero_le _) ?_
          try dsimp only [AExit.then, AExit.block]
          repeat refine AWp.seq ?_
          refine AWp.ret ⟨?_, rfl, rfl, Nat.zero_le _, _, rfl⟩
          rfl
end Go.Am
