/- Own text: D1l. -/
import Derived.Test.YtalfdjihejohoaaD1k
set_option maxRecDepth 100000
set_option linter.unusedVariables false
set_option linter.unusedSimpArgs false
namespace Go.Am
open Go Go.Proofs

def x0 : List (List Acc) := [[(0, true), (1, false)], [(1, true), (0, false)]]
theorem nCirc_x0 : nCirc x0 = 2 := by kernel_rfl
theorem valid_x0 : valid x0 = true := by kernel_rfl
theorem awake_ok : ACall P 15 [] [] (AB true) [] := by
  have cc := Circles_ok x0 ⟨by decide, by decide⟩
  rw [valid_x0, if_pos rfl, nCirc_x0] at cc
  have cc' : ACall P 16 [.d (.list 1 [.list 2 [.agg [I 0, .bool true], .agg [I 1, .bool false]], .list 2 [.agg [I 1, .bool true], .agg [I 0, .bool false]]])] [] (.tuple [AI 2, AI 0]) [] := cc
  refine ACall.enter hT (fn := Try.f15) Try.func15 rfl (by decide) (by simp [Try.f15]) rfl rfl rfl rfl (Nat.le_refl _) ?_
  repeat refine AWp.seq ?_
  refine AWp.reg1 {} hT (fun A hA => by cbv) (Nat.zero_le _) ?_
  try dsimp only [AExit.then, AExit.block]
  repeat refine AWp.seq ?_
  refine AWp.region ?_
  refine AOps.stepCall hT (an := {}) (fun A hA => by cbv) (Nat.zero_le _) rfl (.inr rfl) rfl rfl rfl (Nat.le_of_ble_eq_true rfl) rfl rfl (cc') ?_
  refine AOps.done hT (an := {}) (fun A hA => by cbv) (Nat.zero_le _) ?_
  try dsimp only [AExit.then, AExit.block]
  repeat refine AWp.seq ?_
  refine AWp.reg1 {} hT (fun A hA => by
      have f0 := ar_eq hA (show (0 : Int) = 0 from rfl)
      have f1 := ar_eq hA (show (2 : Int) = 2 from rfl)
      repeat (cbv; simp only [f0, f1])
      cbv) (Nat.zero_le _) ?_
  try dsimp only [AExit.then, AExit.block]
  repeat refine AWp.seq ?_
  refine AWp.ret ⟨?_, rfl, rfl, Nat.zero_le _, _, rfl⟩
  rfl

/-- Without an access. -/
def lessL (l : List Acc) (a : Nat) : List Acc := l.take a ++ l.drop (a + 1)
def lessX (x : List (List Acc)) (t a : Nat) : List (List Acc) := (List.range x.length).map fun u => if u = t then lessL (x.getD u []) a else x.getD u []
theorem lessX_length (x : List (List Acc)) (t a : Nat) : (lessX x t a).length = x.length := by simp [lessX]
theorem lessL_sub (l : List Acc) (a : Nat) : ∀ c ∈ lessL l a, c ∈ l := fun c hc => by
  unfold lessL at hc
  rcases List.mem_append.1 hc with h | h
  · exact List.mem_of_mem_take h
  · exact List.mem_of_mem_drop h
theorem lessL_length (l : List Acc) (a : Nat) : (lessL l a).length ≤ l.length := by
  unfold lessL; simp; omega
theorem mem_lessX {x : List (List Acc)} {t a : Nat} {l : List Acc} (h : l ∈ lessX x t a) : ∃ l' ∈ x, l.length ≤ l'.length ∧ ∀ c ∈ l, c ∈ l' := by
  unfold lessX at h
  simp only [List.mem_map, List.mem_range] at h
  obtain ⟨u, hu, rfl⟩ := h
  refine ⟨x[u], List.getElem_mem hu, ?_⟩
  rw [List.getD_eq_getElem?_getD, List.getElem?_eq_getElem hu]
  simp only [Option.getD_some]
  split
  · exact ⟨lessL_length _ _, lessL_sub _ _⟩
  · exact ⟨Nat.le_refl _, fun _ h => h⟩
theorem valid_less {x : List (List Acc)} (h : valid x = true) (t a : Nat) : valid (lessX x t a) = true := by
  obtain ⟨h1, h2, h3⟩ := valid_sizes h
  unfold valid
  rw [lessX_length]
  have : (lessX x t a).any badL = false := List.any_eq_false.2 (fun l hl => by
    obtain ⟨l', hl', hle, hsub⟩ := mem_lessX hl
    obtain ⟨h4, h5⟩ := h3 l' hl'
    unfold badL
    have : l.any badAcc = false := List.any_eq_false.2 (fun c hc => by have := h5 c (hsub c hc); unfold badAcc; simp; omega)
    rw [this]; simp; omega)
  rw [this]
  simp; omega

theorem less_ok (x : List (List Acc)) (th ac : Int) (hx : Big x) (h1 : 0 ≤ th ∧ th < 256) (h2 : 0 ≤ ac ∧ ac < 256)
    (law1 : ∀ t a, valid x = true → nCirc (lessX x t a) ≤ nCirc x) (law2 : ∀ t a, valid x = true → nConf (lessX x t a) ≤ nConf x) :
    ACall P 3 [.d (dX x), .d (.int .u8 th), .d (.int .u8 ac)] [] (AB true) [] := by
  have cl := long_ok x hx
  have cv := validR_ok x hx
  have ca := awake_ok
  have cc1 := Circles_ok x hx
  have cf1 := conflicts_ok x hx (fun h => valid_small h)
  have hbig : ∀ t a, Big (lessX x t a) := fun t a => ⟨by rw [lessX_length]; exact hx.1, fun l hl => by
    obtain ⟨l', hl', hle, _⟩ := mem_lessX hl
    exact Nat.le_trans hle (hx.2 l' hl')⟩
  have cc2 := fun t a => Circles_ok (lessX x t a) (hbig t a)
  have cf2 := fun t a => conflicts_ok (lessX x t a) (hbig t a) (fun h => valid_small h)
  have hconv : ∀ A : Ar, A = Ar.std → A.wrp .i64 th = th := fun A hA => by subst hA; exact wrapI _ (by omega) (by omega)
  have hconv2 : ∀ A : Ar, A = Ar.std → A.wrp .i64 ac = ac := fun A hA => by subst hA; exact wrapI _ (by omega) (by omega)
  unfold dX at cl cv cc1 cf1 ⊢
  obtain ⟨X, hX⟩ : ∃ X, x.map dAccs = X := ⟨_, rfl⟩
  obtain ⟨n, hn⟩ : ∃ n : Int, (X.length : Int) = n := ⟨_, rfl⟩
  have hxl : (x.length : Int) = n := by rw [← hn, ← hX]; simp
  rw [hX] at cl cv cc1 cf1 ⊢
  refine ACall.enter hT (fn := Try.f3) Try.func3 rfl (by decide) (by simp [Try.f3]) rfl rfl rfl rfl (Nat.le_refl _) ?_
  repeat refine AWp.seq ?_
  refine AWp.reg1 {} hT (fun A hA => by cbv) (Nat.zero_le _) ?_
  try dsimp only [AExit.then, AExit.block]
  cases hlg : long x with
  | true =>
    rw [hlg] at cl
    repeat refine AWp.seq ?_
    refine AWp.region ?_
    refine AOps.stepCall hT (an := {}) (fun A hA => by cbv) (Nat.zero_le _) rfl (.inr rfl) rfl rfl rfl (Nat.le_of_ble_eq_true rfl) rfl rfl (cl) ?_
    refine AOps.done hT (an := {}) (fun A hA => by cbv) (Nat.zero_le _) ?_
    try dsimp only [AExit.then, AExit.block]
    repeat refine AWp.seq ?_
    refine AWp.cond (b := true) rfl ?_
    rw [if_pos rfl]
    repeat refine AWp.seq ?_
    refine AWp.region ?_
    refine AOps.stepCall hT (an := {}) (fun A hA => by cbv) (Nat.zero_le _) rfl (.inr rfl) rfl rfl rfl (Nat.le_of_ble_eq_true rfl) rfl rfl (ca) ?_
    refine AOps.done hT (an := {}) (fun A hA => by cbv) (Nat.zero_le _) ?_
    try dsimp only [AExit.then, AExit.block]
    repeat refine AWp.seq ?_
    refine AWp.ret ⟨?_, rfl, rfl, Nat.zero_le _, _, rfl⟩
    rfl
  | false =>
    rw [hlg] at cl
    cases hv : valid x with
    | false =>
      rw [hv] at cv
      repeat refine AWp.seq ?_
      refine AWp.region ?_
      refine AOps.stepCall hT (an := {}) (fun A hA => by cbv) (Nat.zero_le _) rfl (.inr rfl) rfl rfl rfl (Nat.le_of_ble_eq_true rfl) rfl rfl (cl) ?_
      refine AOps.stepCall hT (an := {}) (fun A hA => by cbv) (Nat.zero_le _) rfl (.inr rfl) rfl rfl rfl (Nat.le_of_ble_eq_true rfl) rfl rfl (cv) ?_
      refine AOps.done hT (an := {}) (fun A hA => by cbv) (Nat.zero_le _) ?_
      try dsimp only [AExit.then, AExit.block]
      repeat refine AWp.seq ?_
      refine AWp.cond (b := true) rfl ?_
      rw [if_pos rfl]
      repeat refine AWp.seq ?_
      refine AWp.region ?_
      refine AOps.stepCall hT (an := {}) (fun A hA => by cbv) (Nat.zero_le _) rfl (.inr rfl) rfl rfl rfl (Nat.le_of_ble_eq_true rfl) rfl rfl (ca) ?_
      refine AOps.done hT (an := {}) (fun A hA => by cbv) (Nat.zero_le _) ?_
      try dsimp only [AExit.then, AExit.block]
      repeat refine AWp.seq ?_
      refine AWp.ret ⟨?_, rfl, rfl, Nat.zero_le _, _, rfl⟩
      rfl
    | true =>
      obtain ⟨s1, s2, s3⟩ := valid_sizes hv
      rw [hv] at cv cc1 cf1
      rw [if_pos rfl] at cc1 cf1
      repeat refine AWp.seq ?_
      refine AWp.region ?_
      refine AOps.stepCall hT (an := {}) (fun A hA => by cbv) (Nat.zero_le _) rfl (.inr rfl) rfl rfl rfl (Nat.le_of_ble_eq_true rfl) rfl rfl (cl) ?_
      refine AOps.stepCall hT (an := {}) (fun A hA => by cbv) (Nat.zero_le _) rfl (.inr rfl) rfl rfl rfl (Nat.le_of_ble_eq_true rfl) rfl rfl (cv) ?_
      refine AOps.done hT (an := {}) (fun A hA => by cbv) (Nat.zero_le _) ?_
      try dsimp only [AExit.then, AExit.block]
      repeat refine AWp.seq ?_
      refine AWp.cond (b := false) rfl (AWp.skip ?_)
      try dsimp only [AExit.then, AExit.block]
      obtain ⟨t, ht⟩ : ∃ t, th.tmod n = t := ⟨_, rfl⟩
      have ht0 : 0 ≤ t := by rw [← ht]; exact Int.tmod_nonneg _ h1.1
      have htn : t < n := by rw [← ht]; exact Int.tmod_lt_of_pos _ (by omega)
      have hrem : ∀ A : Ar, A = Ar.std → A.rem th n = t := fun A hA => by subst hA; exact ht
      obtain ⟨L, hL⟩ : ∃ L, x[t.toNat]? = some L := ⟨_, List.getElem?_eq_getElem (by omega)⟩
      obtain ⟨L', hL'⟩ : ∃ L', L.map dAcc = L' := ⟨_, rfl⟩
      obtain ⟨k, hk⟩ : ∃ n : Int, (L'.length : Int) = n := ⟨_, rfl⟩
      have hkL : (L.length : Int) = k := by rw [← hk, ← hL']; simp
      have hXt : X[t.toNat]? = some (.list 2 L') := by rw [← hX, List.getElem?_map, hL, ← hL']; rfl
      have hk4 := (s3 L (List.mem_of_getElem? hL)).1
      repeat refine AWp.seq ?_
      refine AWp.reg1 {} hT (fun A hA => by
          have f0 := hconv A hA
          have f1 := ar_len hA X n hn
          have f2 := ar_ne hA (show ¬ n = 0 by omega)
          have f3 := hrem A hA
          repeat (cbv; simp only [f0, f1, f2, f3])
          cbv) (Nat.zero_le _) ?_
      try dsimp only [AExit.then, AExit.block]
      by_cases hk0 : k = 0
      · repeat refine AWp.seq ?_
        refine AWp.reg1 {} hT (fun A hA => by
            have f0 := ar_get hA hXt
            have f1 := ar_le hA ht0
            have f2 := ar_len hA L' k hk
            have f3 := ar_eq hA hk0
            repeat (cbv; simp only [f0, f1, f2, f3])
            cbv) (Nat.zero_le _) ?_
        try dsimp only [AExit.then, AExit.block]
        repeat refine AWp.seq ?_
        refine AWp.cond (b := true) rfl ?_
        rw [if_pos rfl]
        repeat refine AWp.seq ?_
        refine AWp.region ?_
        refine AOps.stepCall hT (an := {}) (fun A hA => by cbv) (Nat.zero_le _) rfl (.inr rfl) rfl rfl rfl (Nat.le_of_ble_eq_true rfl) rfl rfl (ca) ?_
        refine AOps.done hT (an := {}) (fun A hA => by cbv) (Nat.zero_le _) ?_
        try dsimp only [AExit.then, AExit.block]
        repeat refine AWp.seq ?_
        refine AWp.ret ⟨?_, rfl, rfl, Nat.zero_le _, _, rfl⟩
        rfl
      · repeat refine AWp.seq ?_
        refine AWp.reg1 {} hT (fun A hA => by
            have f0 := ar_get hA hXt
            have f1 := ar_le hA ht0
            have f2 := ar_len hA L' k hk
            have f3 := ar_ne hA hk0
            repeat (cbv; simp only [f0, f1, f2, f3])
            cbv) (Nat.zero_le _) ?_
        try dsimp only [AExit.then, AExit.block]
        repeat refine AWp.seq ?_
        refine AWp.cond (b := false) rfl (AWp.skip ?_)
        try dsimp only [AExit.then, AExit.block]
        obtain ⟨a, ha⟩ : ∃ t, ac.tmod k = t := ⟨_, rfl⟩
        have ha0 : 0 ≤ a := by rw [← ha]; exact Int.tmod_nonneg _ h2.1
        have hak : a < k := by rw [← ha]; exact Int.tmod_lt_of_pos _ (by omega)
        have hrem2 : ∀ A : Ar, A = Ar.std → A.rem ac k = a := fun A hA => by subst hA; exact ha
        repeat refine AWp.seq ?_
        refine AWp.reg1 {} hT (fun A hA => by
            have f0 := hconv2 A hA
            have f1 := ar_get hA hXt
            have f2 := ar_le hA ht0
            have f3 := ar_len hA L' k hk
            have f4 := ar_ne hA hk0
            have f5 := hrem2 A hA
            repeat (cbv; simp only [f0, f1, f2, f3, f4, f5])
            cbv) (Nat.zero_le _) ?_
        try dsimp only [AExit.then, AExit.block]
        let g : Nat → List Acc := fun u => if u = t.toNat then lessL (x.getD u []) a.toNat else x.getD u []
        have hg : ∀ u, g u = if u = t.toNat then lessL (x.getD u []) a.toNat else x.getD u [] := fun u => rfl
        have hless : lessX x t.toNat a.toNat = (List.range x.length).map g := rfl
        repeat refine AWp.seq ?_
        refine AWp.reg1 {} hT (fun A hA => by cbv) (Nat.zero_le _) ?_
        try dsimp only [AExit.then, AExit.block]
        repeat refine AWp.seq ?_
        refine AWp.reg1 {} hT (fun A hA => by
            have f0 := ar_len hA X n hn
            repeat (cbv; simp only [f0])
            cbv) (Nat.zero_le _) ?_
        try dsimp only [AExit.then, AExit.block]
        refine AWp.block (AWp.loopInv (ι := Int × List D) (fun p => 0 ≤ p.1 ∧ p.1 ≤ n ∧ p.2 = ((List.range p.1.toNat).map g).map dAccs) (fun p => (n - p.1).toNat) [0, 7, 8, 9, 48, 49, 50]
          (fun p => { env := [(0, .d (.list 1 X)), (7, AI t), (8, AI a), (9, .own 1 p.2), (48, .d (.list 1 X)), (49, AI n), (50, AI p.1)], heap := [], n := 120 }) (0, []) (by cbv) ⟨Int.le_refl _, by omega, rfl⟩ ?_)
        rintro ⟨z, l⟩ ⟨g0, g1, hl⟩
        dsimp only at *
        by_cases hz : z < n
        · obtain ⟨Lz, hLz⟩ : ∃ L, x[z.toNat]? = some L := ⟨_, List.getElem?_eq_getElem (by omega)⟩
          obtain ⟨M, hM⟩ : ∃ L', Lz.map dAcc = L' := ⟨_, rfl⟩
          have hXz : X[z.toNat]? = some (.list 2 M) := by rw [← hX, List.getElem?_map, hLz, ← hM]; rfl
          have hgz : x.getD z.toNat [] = Lz := by rw [List.getD_eq_getElem?_getD, hLz]; rfl
          have hll : (l.length : Int) = z := by rw [hl]; simp; omega
          obtain ⟨z1, hz1⟩ : ∃ z1, z + 1 = z1 := ⟨_, rfl⟩
          have hnext : ∀ l2, l ++ [dAccs (g z.toNat)] = l2 → l2 = ((List.range z1.toNat).map g).map dAccs := fun l2 h => by
            rw [← h, show z1.toNat = z.toNat + 1 by omega, List.range_succ, List.map_append, List.map_append, ← hl]; rfl
          repeat refine AWp.seq ?_
          refine AWp.reg1 {} hT (fun A hA => by
              have f0 := ar_lt hA hz
              repeat (cbv; simp only [f0])
              cbv) (Nat.zero_le _) ?_
          try dsimp only [AExit.then, AExit.block]
          repeat refine AWp.seq ?_
          refine AWp.cond (b := true) rfl (AWp.skip ?_)
          try dsimp only [AExit.then, AExit.block]
          repeat refine AWp.seq ?_
          refine AWp.block ?_
          repeat refine AWp.seq ?_
          refine AWp.reg1 {} hT (fun A hA => by
              have f0 := ar_get hA hXz
              have f1 := ar_le hA g0
              repeat (cbv; simp only [f0, f1])
              cbv) (Nat.zero_le _) ?_
          try dsimp only [AExit.then, AExit.block]
          by_cases hzt : z = t
          · have hLL : Lz = L := by rw [hzt, hL] at hLz; injection hLz with h; exact h.symm
            have hMk : (M.length : Int) = k := by rw [← hM, hLL]; simpa using hkL
            have hgt : g z.toNat = Lz.take a.toNat ++ Lz.drop (a.toNat + 1) := by rw [hg, if_pos (by omega), hgz]; rfl
            obtain ⟨M1, hM1⟩ : ∃ M1, M.take a.toNat = M1 := ⟨_, rfl⟩
            obtain ⟨M2, hM2⟩ : ∃ M2, M.drop (a.toNat + 1) = M2 := ⟨_, rfl⟩
            obtain ⟨M3, hM3⟩ : ∃ M3, M1 ++ M2 = M3 := ⟨_, rfl⟩
            obtain ⟨a1, ha1⟩ : ∃ z1, a + 1 = z1 := ⟨_, rfl⟩
            have e1 : M1.length ≤ 4 := by rw [← hM1]; simp; omega
            have e2 : M2.length ≤ 4 := by rw [← hM2]; simp; omega
            have hs1 : ∀ A : Ar, A = Ar.std → A.sub M 0 a = M1 := fun A hA => by subst hA; rw [← hM1]; simp [Ar.std]
            have hs2 : ∀ A : Ar, A = Ar.std → A.sub M a1 k = M2 := fun A hA => by
              subst hA; rw [← hM2]
              show (M.drop a1.toNat).take (k.toNat - a1.toNat) = _
              rw [show a1.toNat = a.toNat + 1 by omega, List.take_of_length_le (by simp; omega)]
            obtain ⟨l2, hl2⟩ : ∃ l2, l ++ [.list 2 M3] = l2 := ⟨_, rfl⟩
            have hl3 := hnext l2 (by
              rw [← hl2, hgt]
              unfold dAccs
              rw [List.map_append, List.map_take, List.map_drop, hM, hM1, hM2, hM3])
            repeat refine AWp.seq ?_
            refine AWp.reg1 {} hT (fun A hA => by
                have f0 := ar_eq hA hzt
                repeat (cbv; simp only [f0])
                cbv) (Nat.zero_le _) ?_
            try dsimp only [AExit.then, AExit.block]
            repeat refine AWp.seq ?_
            refine AWp.cond (b := true) rfl ?_
            rw [if_pos rfl]
            repeat refine AWp.seq ?_
            refine AWp.reg1D {} hT rfl (fun A hA => by
                have f0 := ar_len hA M k hMk
                have f1 := ar_le hA (Int.le_refl 0)
                have f2 := ar_le hA ha0
                have f3 := ar_le hA (show a ≤ k by omega)
                have f4 := hs1 A hA
                have f5 := ar_app hA [] M1 M1 rfl
                have f6 := ar_fits hA [] M1 (by simp; omega)
                have f7 := ar_add hA a 1 a1 ha1 (by omega) (by omega)
                have f8 := ar_le hA (show 0 ≤ a1 by omega)
                have f9 := ar_le hA (show a1 ≤ k by omega)
                have f10 := ar_le hA (Int.le_refl k)
                have f11 := hs2 A hA
                have f12 := ar_app hA _ _ _ hM3
                have f13 := ar_fits hA M1 M2 (by omega)
                repeat (cbv; simp only [f0, f1, f2, f3, f4, f5, f6, f7, f8, f9, f10, f11, f12, f13])
                cbv) (by kernel_rfl) (Nat.zero_le _) ?_
            try dsimp only [AExit.then, AExit.block]
            repeat refine AWp.seq ?_
            refine AWp.reg1 {tk := [9, 68, 71]} hT (fun A hA => by
                have f0 := ar_app hA _ _ _ hl2
                have f1 := ar_fits hA l [.list 2 M3] (by simp; omega)
                repeat (cbv; simp only [f0, f1])
                cbv) (Nat.zero_le _) ?_
            try dsimp only [AExit.then, AExit.block]
            repeat refine AWp.seq ?_
            refine AWp.reg1 {} hT (fun A hA => by
                have f0 := ar_add hA z 1 z1 hz1 (by omega) (by omega)
                repeat (cbv; simp only [f0])
                cbv) (Nat.zero_le _) ?_
            try dsimp only [AExit.then, AExit.block]
            exact ⟨(z1, l2), ⟨by dsimp only; omega, by dsimp only; omega, hl3⟩, by dsimp only; omega, by cbv⟩
          · have hgt : g z.toNat = Lz := by rw [hg, if_neg (by omega), hgz]
            obtain ⟨l2, hl2⟩ : ∃ l2, l ++ [.list 2 M] = l2 := ⟨_, rfl⟩
            have hl3 := hnext l2 (by
              rw [← hl2, hgt]
              unfold dAccs
              rw [hM])
            repeat refine AWp.seq ?_
            refine AWp.reg1 {} hT (fun A hA => by
                have f0 := ar_ne hA hzt
                repeat (cbv; simp only [f0])
                cbv) (Nat.zero_le _) ?_
            try dsimp only [AExit.then, AExit.block]
            repeat refine AWp.seq ?_
            refine AWp.cond (b := false) rfl (AWp.skip ?_)
            try dsimp only [AExit.then, AExit.block]
            repeat refine AWp.seq ?_
            refine AWp.reg1 {tk := [9, 68, 71]} hT (fun A hA => by
                have f0 := ar_app hA _ _ _ hl2
                have f1 := ar_fits hA l [.list 2 M] (by simp; omega)
                repeat (cbv; simp only [f0, f1])
                cbv) (Nat.zero_le _) ?_
            try dsimp only [AExit.then, AExit.block]
            repeat refine AWp.seq ?_
            refine AWp.reg1 {} hT (fun A hA => by
                have f0 := ar_add hA z 1 z1 hz1 (by omega) (by omega)
                repeat (cbv; simp only [f0])
                cbv) (Nat.zero_le _) ?_
            try dsimp only [AExit.then, AExit.block]
            exact ⟨(z1, l2), ⟨by dsimp only; omega, by dsimp only; omega, hl3⟩, by dsimp only; omega, by cbv⟩
        · have hc2 := cc2 t.toNat a.toNat
          have hf2 := cf2 t.toNat a.toNat
          have hl1 := law1 t.toNat a.toNat hv
          have hl2 := law2 t.toNat a.toNat hv
          rw [valid_less hv, if_pos rfl] at hc2 hf2
          unfold dX at hc2 hf2
          rw [hless, show x.length = z.toNat by omega, ← hl] at hc2 hf2
          rw [hless, show x.length = z.toNat by omega] at hl1 hl2
          obtain ⟨N, hN⟩ : ∃ N : Int, (nCirc x : Int) = N := ⟨_, rfl⟩
          obtain ⟨N2, hN2⟩ : ∃ N : Int, (nCirc ((List.range z.toNat).map g) : Int) = N := ⟨_, rfl⟩
          obtain ⟨Q, hQ⟩ : ∃ N : Int, (nConf x : Int) = N := ⟨_, rfl⟩
          obtain ⟨Q2, hQ2⟩ : ∃ N : Int, (nConf ((List.range z.toNat).map g) : Int) = N := ⟨_, rfl⟩
          rw [hN] at cc1
          rw [hN2] at hc2
          rw [hQ] at cf1
          rw [hQ2] at hf2
          repeat refine AWp.seq ?_
          refine AWp.reg1 {} hT (fun A hA => by
              have f0 := ar_nlt hA hz
              repeat (cbv; simp only [f0])
              cbv) (Nat.zero_le _) ?_
          try dsimp only [AExit.then, AExit.block]
          repeat refine AWp.seq ?_
          refine AWp.cond (b := false) rfl (AWp.exit ?_)
          try dsimp only [AExit.then, AExit.block]
          rw [if_pos rfl]
          repeat refine AWp.seq ?_
          refine AWp.region ?_
          refine AOps.stepCall hT (an := {}) (fun A hA => by cbv) (Nat.zero_le _) rfl (.inr rfl) rfl rfl rfl (Nat.le_of_ble_eq_true rfl) rfl rfl (cc1) ?_
          refine AOps.done hT (an := {}) (fun A hA => by cbv) (Nat.zero_le _) ?_
          try dsimp only [AExit.then, AExit.block]
          repeat refine AWp.seq ?_
          refine AWp.region ?_
          refine AOps.stepCall hT (an := {}) (fun A hA => by cbv) (Nat.zero_le _) rfl (.inr rfl) rfl rfl rfl (Nat.le_of_ble_eq_true rfl) rfl rfl (hc2) ?_
          refine AOps.done hT (an := {}) (fun A hA => by cbv) (Nat.zero_le _) ?_
          try dsimp only [AExit.then, AExit.block]
          repeat refine AWp.seq ?_
          refine AWp.region ?_
          refine AOps.stepCall hT (an := {}) (fun A hA => by cbv) (Nat.zero_le _) rfl (.inr rfl) rfl rfl rfl (Nat.le_of_ble_eq_true rfl) rfl rfl (cf1) ?_
          refine AOps.done hT (an := {}) (fun A hA => by cbv) (Nat.zero_le _) ?_
          try dsimp only [AExit.then, AExit.block]
          repeat refine AWp.seq ?_
          refine AWp.region ?_
          refine AOps.stepCall hT (an := {}) (fun A hA => by cbv) (Nat.zero_le _) rfl (.inr rfl) rfl rfl rfl (Nat.le_of_ble_eq_true rfl) rfl rfl (hf2) ?_
          refine AOps.done hT (an := {}) (fun A hA => by cbv) (Nat.zero_le _) ?_
          try dsimp only [AExit.then, AExit.block]
          repeat refine AWp.seq ?_
          refine AWp.region ?_
          refine AOps.stepCall hT (an := {}) (fun A hA => by
              have f0 := ar_eq hA (show (0 : Int) = 0 from rfl)
              have f1 := ar_le hA (show N2 ≤ N by omega)
              have f2 := ar_le hA (show Q2 ≤ Q by omega)
              repeat (cbv; simp only [f0, f1, f2])
              cbv) (Nat.zero_le _) rfl (.inr rfl) rfl rfl rfl (Nat.le_of_ble_eq_true rfl) rfl rfl (ca) ?_
          refine AOps.done hT (an := {}) (fun A hA => by cbv) (Nat.zero_le _) ?_
          try dsimp only [AExit.then, AExit.block]
          repeat refine AWp.seq ?_
          refine AWp.ret ⟨?_, rfl, rfl, Nat.zero_le _, _, rfl⟩
          rfl
end Go.Am
