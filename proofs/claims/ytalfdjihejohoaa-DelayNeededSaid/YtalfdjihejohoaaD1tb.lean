/- Own text: D1tb. -/
import Derived.Test.YtalfdjihejohoaaD1ta
set_option maxRecDepth 100000
set_option linter.unusedVariables false
set_option linter.unusedSimpArgs false
namespace Go.Am
open Go Go.Proofs

/-- Threads that are turned round. -/
def turned (x : List (List Acc)) : List (List Acc) := x.map List.reverse
theorem scalars_dAcc (l : List Acc) : scalars (l.map dAcc) = true := by simp [scalars, dAcc, D.cells, D.scalar]

theorem Turned_ok (x : List (List Acc)) (hx : Big x) : ACall P 25 [.d (dX x)] [] (.tuple [.d (.list 1 (if valid x then (turned x).map dAccs else [])), AI (if valid x then 0 else 90)]) [] := by
  have cv := valid_ok x hx
  cases hv : valid x with
  | false =>
    rw [hv] at cv
    obtain ⟨X, hX⟩ : ∃ X, dX x = X := ⟨_, rfl⟩
    rw [hX] at cv ⊢
    refine ACall.enter hT (fn := Try.f25) Try.func25 rfl (by decide) (by simp [Try.f25]) rfl rfl rfl rfl (Nat.le_refl _) ?_
    repeat refine AWp.seq ?_
    refine AWp.reg1 {} hT (fun A hA => by cbv) (Nat.zero_le _) ?_
    try dsimp only [AExit.then, AExit.block]
    repeat refine AWp.seq ?_
    refine AWp.region ?_
    refine AOps.stepCall hT (an := {}) (fun A hA => by cbv) (Nat.zero_le _) rfl (.inr rfl) rfl rfl rfl (Nat.le_of_ble_eq_true rfl) rfl rfl (cv) ?_
    refine AOps.done hT (an := {}) (fun A hA => by cbv) (Nat.zero_le _) ?_
    try dsimp only [AExit.then, AExit.block]
    repeat refine AWp.seq ?_
    refine AWp.cond (b := true) rfl ?_
    rw [if_pos rfl]
    repeat refine AWp.seq ?_
    refine AWp.reg1 {} hT (fun A hA => by cbv) (Nat.zero_le _) ?_
    try dsimp only [AExit.then, AExit.block]
    repeat refine AWp.seq ?_
    refine AWp.ret ⟨?_, rfl, rfl, Nat.zero_le _, _, rfl⟩
    rfl
  | true =>
    have hsm := valid_small hv
    rw [hv] at cv
    simp only [if_true]
    unfold dX at *
    obtain ⟨X, hX⟩ : ∃ X, x.map dAccs = X := ⟨_, rfl⟩
    obtain ⟨n, hn⟩ : ∃ n : Int, (X.length : Int) = n := ⟨_, rfl⟩
    have hxl : (x.length : Int) = n := by rw [← hn, ← hX]; simp
    have hs := hsm.1
    rw [hX] at cv ⊢
    refine ACall.enter hT (fn := Try.f25) Try.func25 rfl (by decide) (by simp [Try.f25]) rfl rfl rfl rfl (Nat.le_refl _) ?_
    repeat refine AWp.seq ?_
    refine AWp.reg1 {} hT (fun A hA => by cbv) (Nat.zero_le _) ?_
    try dsimp only [AExit.then, AExit.block]
    repeat refine AWp.seq ?_
    refine AWp.region ?_
    refine AOps.stepCall hT (an := {}) (fun A hA => by cbv) (Nat.zero_le _) rfl (.inr rfl) rfl rfl rfl (Nat.le_of_ble_eq_true rfl) rfl rfl (cv) ?_
    refine AOps.done hT (an := {}) (fun A hA => by cbv) (Nat.zero_le _) ?_
    try dsimp only [AExit.then, AExit.block]
    repeat refine AWp.seq ?_
    refine AWp.cond (b := false) rfl (AWp.skip ?_)
    try dsimp only [AExit.then, AExit.block]
    repeat refine AWp.seq ?_
    refine AWp.reg1 {tk := [4]} hT (fun A hA => by cbv) (Nat.zero_le _) ?_
    try dsimp only [AExit.then, AExit.block]
    repeat refine AWp.seq ?_
    refine AWp.reg1 {} hT (fun A hA => by
        have f0 := ar_len hA X n hn
        repeat (cbv; simp only [f0])
        cbv) (Nat.zero_le _) ?_
    try dsimp only [AExit.then, AExit.block]
    refine AWp.block (AWp.loopH (ι := Int × List D) (fun p => 0 ≤ p.1 ∧ p.1 ≤ n ∧ p.2 = ((turned x).take p.1.toNat).map dAccs) (fun p => (n - p.1).toNat) [4, 10, 11, 12] 0
      (fun p => { env := [(4, .own 1 p.2), (10, .d (.list 1 X)), (11, AI n), (12, AI p.1)], heap := [], n := 26 }) (0, []) (Nat.le_refl _) rfl (by cbv) ⟨Int.le_refl _, by dsimp only; omega, by simp⟩ ?_)
    rintro ⟨z, L⟩ ⟨h0, h1, h2⟩
    dsimp only at *
    by_cases hz : z < n
    · obtain ⟨z1, hz1⟩ : ∃ z1, z + 1 = z1 := ⟨_, rfl⟩
      obtain ⟨l, hl⟩ : ∃ l, x[z.toNat]? = some l := ⟨_, List.getElem?_eq_getElem (by omega)⟩
      have hl1 := hsm.2 l (List.mem_of_getElem? hl)
      have hXt : X[z.toNat]? = some (dAccs l) := by rw [← hX, List.getElem?_map, hl]; rfl
      have hnext : ((turned x).take z1.toNat).map dAccs = L ++ [.list 2 (l.reverse.map dAcc)] := by
        rw [show z1.toNat = z.toNat + 1 by omega, List.take_add_one, List.map_append, ← h2]
        unfold turned
        rw [List.getElem?_map, hl]; rfl
      have hLl : (L.length : Int) ≤ z := by rw [h2]; simp; omega
      have ccl := clone_ok l hl1
      unfold dAccs at ccl hXt
      by_cases he : l = []
      · subst he
        simp only [List.map_nil, List.reverse_nil] at hnext ccl hXt
        obtain ⟨L1, hL1⟩ : ∃ l3, L ++ [.list 2 []] = l3 := ⟨_, rfl⟩
        repeat refine AWp.seq ?_
        refine AWp.reg1 {} hT (fun A hA => by
            have f0 := ar_lt hA hz
            repeat (cbv; simp only [f0])
            cbv) (Nat.zero_le _) ?_
        try dsimp only [AExit.then, AExit.block]
        repeat refine AWp.seq ?_
        refine AWp.cond (b := true) rfl (AWp.skip ?_)
        try dsimp only [AExit.then, AExit.block]
        repeat refine AWp.seq ?_
        refine AWp.block ?_
        repeat refine AWp.seq ?_
        refine AWp.reg1 {} hT (fun A hA => by
            have f0 := ar_get hA hXt
            have f1 := ar_le hA h0
            repeat (cbv; simp only [f0, f1])
            cbv) (Nat.zero_le _) ?_
        try dsimp only [AExit.then, AExit.block]
        repeat refine AWp.seq ?_
        refine AWp.region ?_
        refine AOps.stepCall hT (an := {}) (fun A hA => by cbv) (Nat.zero_le _) rfl (.inr rfl) rfl rfl rfl (Nat.le_of_ble_eq_true rfl) rfl rfl (ccl) ?_
        refine AOps.done hT (an := {}) (fun A hA => by cbv) (Nat.zero_le _) ?_
        try dsimp only [AExit.then, AExit.block]
        repeat refine AWp.seq ?_
        refine AWp.region ?_
        refine AOps.stepCall hT (an := {}) (fun A hA => by cbv) (Nat.zero_le _) rfl (.inr rfl) rfl rfl rfl (Nat.le_of_ble_eq_true rfl) rfl rfl (reverse0_ok) ?_
        refine AOps.done hT (an := {}) (fun A hA => by cbv) (Nat.zero_le _) ?_
        try dsimp only [AExit.then, AExit.block]
        repeat refine AWp.seq ?_
        refine AWp.reg1 {tk := [4, 20, 23]} hT (fun A hA => by
            have f0 := ar_app hA _ _ _ hL1
            have f1 := ar_fits hA L [.list 2 []] (by simp; omega)
            repeat (cbv; simp only [f0, f1])
            cbv) (Nat.zero_le _) ?_
        try dsimp only [AExit.then, AExit.block]
        repeat refine AWp.seq ?_
        refine AWp.reg1 {} hT (fun A hA => by
            have f0 := ar_add hA z 1 z1 hz1 (by omega) (by omega)
            repeat (cbv; simp only [f0])
            cbv) (Nat.zero_le _) ?_
        try dsimp only [AExit.then, AExit.block]
        refine ⟨rfl, (z1, L1), ⟨by dsimp only; omega, by dsimp only; omega, by dsimp only; rw [hnext, hL1]⟩, by dsimp only; omega, by cbv⟩
      · obtain ⟨k, hk⟩ : ∃ k : Int, (l.length : Int) = k := ⟨_, rfl⟩
        have hpos : 0 < l.length := List.length_pos_iff.2 he
        have crv := reverse_ok l k hk (by omega) (by omega)
        have cth := ACall.thaw ccl rfl rfl (by simpa using he) (scalars_dAcc l) (H := []) rfl (n := k) (by simpa using hk)
        have hsub : Ar.std.sub (l.reverse.map dAcc) 0 (0 + k) = l.reverse.map dAcc := by
          simp only [Ar.std]
          rw [List.take_of_length_le (by simp; omega)]; rfl
        have hrl : ((l.reverse.map dAcc).length : Int) = k := by simp; omega
        obtain ⟨M, hM⟩ : ∃ M, l.map dAcc = M := ⟨_, rfl⟩
        obtain ⟨R, hR⟩ : ∃ M, l.reverse.map dAcc = M := ⟨_, rfl⟩
        rw [hM] at cth crv hXt
        rw [hR] at crv hsub hnext hrl
        obtain ⟨L1, hL1⟩ : ∃ l3, L ++ [.list 2 R] = l3 := ⟨_, rfl⟩
        rw [hM] at ccl
        repeat refine AWp.seq ?_
        refine AWp.reg1 {} hT (fun A hA => by
            have f0 := ar_lt hA hz
            repeat (cbv; simp only [f0])
            cbv) (Nat.zero_le _) ?_
        try dsimp only [AExit.then, AExit.block]
        repeat refine AWp.seq ?_
        refine AWp.cond (b := true) rfl (AWp.skip ?_)
        try dsimp only [AExit.then, AExit.block]
        repeat refine AWp.seq ?_
        refine AWp.block ?_
        repeat refine AWp.seq ?_
        refine AWp.reg1 {} hT (fun A hA => by
            have f0 := ar_get hA hXt
            have f1 := ar_le hA h0
            repeat (cbv; simp only [f0, f1])
            cbv) (Nat.zero_le _) ?_
        try dsimp only [AExit.then, AExit.block]
        repeat refine AWp.seq ?_
        refine AWp.region ?_
        refine AOps.stepCallW hT (an := {}) (fun A hA => by cbv) (Nat.zero_le _) (by first | rfl | exact hin) (by first | rfl | simp [inbL, AV.inb, hbs]) rfl (Nat.le_of_ble_eq_true rfl) rfl (by first | rfl | simp [AV.free, hbf]) (cth) ?_
        refine AOps.done hT (an := {}) (fun A hA => by cbv) (Nat.zero_le _) ?_
        try dsimp only [AExit.then, AExit.block]
        repeat refine AWp.seq ?_
        refine AWp.region ?_
        refine AOps.stepCallW hT (an := {}) (fun A hA => by cbv) (Nat.zero_le _) (by first | rfl | exact hin) (by first | rfl | simp [inbL, AV.inb, hbs]) rfl (Nat.le_of_ble_eq_true rfl) rfl (by first | rfl | simp [AV.free, hbf]) (crv) ?_
        refine AOps.done hT (an := {}) (fun A hA => by cbv) (Nat.zero_le _) ?_
        try dsimp only [AExit.then, AExit.block]
        repeat refine AWp.seq ?_
        refine AWp.freeze (s := 6) (i := 0) (k := 2) (lo := 0) (n := k) (l := R) (l' := R) rfl rfl (by omega) hsub ?_
        repeat refine AWp.seq ?_
        refine AWp.reg1 {tk := [4, 20, 23]} hT (fun A hA => by
            have f0 := ar_app hA _ _ _ hL1
            have f1 := ar_fits hA L [.list 2 R] (by simp; omega)
            repeat (cbv; simp only [f0, f1])
            cbv) (Nat.zero_le _) ?_
        try dsimp only [AExit.then, AExit.block]
        repeat refine AWp.seq ?_
        refine AWp.reg1 {} hT (fun A hA => by
            have f0 := ar_add hA z 1 z1 hz1 (by omega) (by omega)
            repeat (cbv; simp only [f0])
            cbv) (Nat.zero_le _) ?_
        try dsimp only [AExit.then, AExit.block]
        refine ⟨rfl, (z1, L1), ⟨by dsimp only; omega, by dsimp only; omega, by dsimp only; rw [hnext, hL1]⟩, by dsimp only; omega, by cbv⟩
    · repeat refine AWp.seq ?_
      refine AWp.reg1 {} hT (fun A hA => by
          have f0 := ar_nlt hA hz
          repeat (cbv; simp only [f0])
          cbv) (Nat.zero_le _) ?_
      try dsimp only [AExit.then, AExit.block]
      repeat refine AWp.seq ?_
      refine AWp.cond (b := false) rfl (AWp.exit ?_)
      try dsimp only [AExit.then, AExit.block]
      rw [if_pos rfl]
      repeat refine AWp.seq ?_
      refine AWp.reg1 {} hT (fun A hA => by cbv) (Nat.zero_le _) ?_
      try dsimp only [AExit.then, AExit.block]
      repeat refine AWp.seq ?_
      refine AWp.ret ⟨?_, rfl, rfl, Nat.zero_le _, _, rfl⟩
      rw [h2, List.take_of_length_le (by unfold turned; simp; omega)]; rfl

theorem Needed_ok (x : List (List Acc)) (hx : Big x) (hsm : valid x = true → Small x ∧ (stations x).length ≤ 4000000000) : ACall P 27 [.d (dX x)] [] (.tuple [.d (.list 3 (if valid x then (neededL x).map dSta else [])), AI (if valid x then 0 else 90)]) [] := by
  have cv := valid_ok x hx
  cases hv : valid x with
  | false =>
    rw [hv] at cv
    obtain ⟨X, hX⟩ : ∃ X, dX x = X := ⟨_, rfl⟩
    rw [hX] at cv ⊢
    refine ACall.enter hT (fn := Try.f27) Try.func27 rfl (by decide) (by simp [Try.f27]) rfl rfl rfl rfl (Nat.le_refl _) ?_
    repeat refine AWp.seq ?_
    refine AWp.reg1 {} hT (fun A hA => by cbv) (Nat.zero_le _) ?_
    try dsimp only [AExit.then, AExit.block]
    repeat refine AWp.seq ?_
    refine AWp.region ?_
    refine AOps.stepCall hT (an := {}) (fun A hA => by cbv) (Nat.zero_le _) rfl (.inr rfl) rfl rfl rfl (Nat.le_of_ble_eq_true rfl) rfl rfl (cv) ?_
    refine AOps.done hT (an := {}) (fun A hA => by cbv) (Nat.zero_le _) ?_
    try dsimp only [AExit.then, AExit.block]
    repeat refine AWp.seq ?_
    refine AWp.cond (b := true) rfl ?_
    rw [if_pos rfl]
    repeat refine AWp.seq ?_
    refine AWp.reg1 {} hT (fun A hA => by cbv) (Nat.zero_le _) ?_
    try dsimp only [AExit.then, AExit.block]
    repeat refine AWp.seq ?_
    refine AWp.ret ⟨?_, rfl, rfl, Nat.zero_le _, _, rfl⟩
    rfl
  | true =>
    obtain ⟨hs, hlen⟩ := hsm hv
    rw [hv] at cv
    have cp := needed_ok x hs hlen
    have cpl := plain_ok (neededL x) (Nat.le_trans (List.length_filter_le _ _) (Nat.le_trans (List.length_filter_le _ _) hlen))
    simp only [if_true]
    obtain ⟨X, hX⟩ : ∃ X, dX x = X := ⟨_, rfl⟩
    obtain ⟨R, hR⟩ : ∃ R, (neededL x).map dSta = R := ⟨_, rfl⟩
    rw [hX] at cv cp ⊢
    rw [hR] at cp cpl ⊢
    refine ACall.enter hT (fn := Try.f27) Try.func27 rfl (by decide) (by simp [Try.f27]) rfl rfl rfl rfl (Nat.le_refl _) ?_
    repeat refine AWp.seq ?_
    refine AWp.reg1 {} hT (fun A hA => by cbv) (Nat.zero_le _) ?_
    try dsimp only [AExit.then, AExit.block]
    repeat refine AWp.seq ?_
    refine AWp.region ?_
    refine AOps.stepCall hT (an := {}) (fun A hA => by cbv) (Nat.zero_le _) rfl (.inr rfl) rfl rfl rfl (Nat.le_of_ble_eq_true rfl) rfl rfl (cv) ?_
    refine AOps.done hT (an := {}) (fun A hA => by cbv) (Nat.zero_le _) ?_
    try dsimp only [AExit.then, AExit.block]
    repeat refine AWp.seq ?_
    refine AWp.cond (b := false) rfl (AWp.skip ?_)
    try dsimp only [AExit.then, AExit.block]
    repeat refine AWp.seq ?_
    refine AWp.region ?_
    refine AOps.stepCall hT (an := {}) (fun A hA => by cbv) (Nat.zero_le _) rfl (.inr rfl) rfl rfl rfl (Nat.le_of_ble_eq_true rfl) rfl rfl (cp) ?_
    refine AOps.stepCall hT (an := {}) (fun A hA => by cbv) (Nat.zero_le _) rfl (.inr rfl) rfl rfl rfl (Nat.le_of_ble_eq_true rfl) rfl rfl (cpl) ?_
    refine AOps.done hT (an := {}) (fun A hA => by cbv) (Nat.zero_le _) ?_
    try dsimp only [AExit.then, AExit.block]
    repeat refine AWp.seq ?_
    refine AWp.ret ⟨?_, rfl, rfl, Nat.zero_le _, _, rfl⟩
    rfl

theorem in_sta_ok (l : List Sta) (s : Sta) (hl : l.length ≤ 9223372036854775807) : ACall P 28 [.d (.list 3 (l.map dSta)), .d (dSta s)] [] (AB (l.contains s)) [] := by
  obtain ⟨X, hX⟩ : ∃ X, l.map dSta = X := ⟨_, rfl⟩
  obtain ⟨n, hn⟩ : ∃ n : Int, (X.length : Int) = n := ⟨_, rfl⟩
  have hln : (l.length : Int) = n := by rw [← hn, ← hX]; simp
  obtain ⟨a, b, c⟩ := s
  unfold dSta
  dsimp only
  have hfun : (fun s => D.agg [I s.1, I s.2.1, I s.2.2]) = dSta := rfl
  rw [hfun, hX]
  refine ACall.enter hT (fn := Try.f28) Try.func28 rfl (by decide) (by simp [Try.f28]) rfl rfl rfl rfl (Nat.le_refl _) ?_
  repeat refine AWp.seq ?_
  refine AWp.reg1 {} hT (fun A hA => by cbv) (Nat.zero_le _) ?_
  try dsimp only [AExit.then, AExit.block]
  repeat refine AWp.seq ?_
  refine AWp.reg1 {} hT (fun A hA => by
      have f0 := ar_len hA X n hn
      repeat (cbv; simp only [f0])
      cbv) (Nat.zero_le _) ?_
  try dsimp only [AExit.then, AExit.block]
  refine AWp.block (AWp.loopInv (ι := Int) (fun z => 0 ≤ z ∧ z ≤ n ∧ (l.take z.toNat).contains (a, b, c) = false) (fun z => (n - z).toNat) [3, 7, 8, 9]
    (fun z => { env := [(3, .lbox [AI a, AI b, AI c]), (7, .d (.list 3 X)), (8, AI n), (9, AI z)], heap := [], n := 17 }) 0 (by cbv) ⟨Int.le_refl _, by omega, by simp⟩ ?_)
  rintro z ⟨h0, h1, h2⟩
  by_cases hz : z < n
  · obtain ⟨z1, hz1⟩ : ∃ z1, z + 1 = z1 := ⟨_, rfl⟩
    obtain ⟨⟨a', b', c'⟩, hs⟩ : ∃ s, l[z.toNat]? = some s := ⟨_, List.getElem?_eq_getElem (by omega)⟩
    have hXs : X[z.toNat]? = some (.agg [I a', I b', I c']) := by rw [← hX, List.getElem?_map, hs]; rfl
    obtain ⟨r, hr⟩ : ∃ r, decide ((a', b', c') = (a, b, c)) = r := ⟨_, rfl⟩
    have hdeq : ∀ A : Ar, A = Ar.std → A.deq [I a', I b', I c'] [I a, I b, I c] = r := fun A hA => ar_deq hA (by rw [← hr]; simp)
    repeat refine AWp.seq ?_
    refine AWp.reg1 {} hT (fun A hA => by
        have f0 := ar_lt hA hz
        repeat (cbv; simp only [f0])
        cbv) (Nat.zero_le _) ?_
    try dsimp only [AExit.then, AExit.block]
    repeat refine AWp.seq ?_
    refine AWp.cond (b := true) rfl (AWp.skip ?_)
    try dsimp only [AExit.then, AExit.block]
    repeat refine AWp.seq ?_
    refine AWp.block ?_
    repeat refine AWp.seq ?_
    refine AWp.reg1 {} hT (fun A hA => by
        have f0 := ar_get hA hXs
        have f1 := ar_le hA h0
        repeat (cbv; simp only [f0, f1])
        cbv) (Nat.zero_le _) ?_
    try dsimp only [AExit.then, AExit.block]
    cases r with
    | true =>
      repeat refine AWp.seq ?_
      refine AWp.reg1 {} hT (fun A hA => by
          have f0 := hdeq A hA
          repeat (cbv; simp only [f0])
          cbv) (Nat.zero_le _) ?_
      try dsimp only [AExit.then, AExit.block]
      repeat refine AWp.seq ?_
      refine AWp.cond (b := true) rfl ?_
      rw [if_pos rfl]
      repeat refine AWp.seq ?_
      refine AWp.reg1 {} hT (fun A hA => by cbv) (Nat.zero_le _) ?_
      try dsimp only [AExit.then, AExit.block]
      repeat refine AWp.seq ?_
      refine AWp.ret ⟨?_, rfl, rfl, Nat.zero_le _, _, rfl⟩
      have : l.contains (a, b, c) = true := by
        rw [← of_decide_eq_true hr]
        simpa using List.mem_of_getElem? hs
      rw [this]; rfl
    | false =>
      repeat refine AWp.seq ?_
      refine AWp.reg1 {} hT (fun A hA => by
          have f0 := hdeq A hA
          repeat (cbv; simp only [f0])
          cbv) (Nat.zero_le _) ?_
      try dsimp only [AExit.then, AExit.block]
      repeat refine AWp.seq ?_
      refine AWp.cond (b := false) rfl (AWp.skip ?_)
      try dsimp only [AExit.then, AExit.block]
      repeat refine AWp.seq ?_
      refine AWp.reg1 {} hT (fun A hA => by
          have f0 := ar_add hA z 1 z1 hz1 (by omega) (by omega)
          repeat (cbv; simp only [f0])
          cbv) (Nat.zero_le _) ?_
      try dsimp only [AExit.then, AExit.block]
      refine ⟨z1, ⟨by omega, by omega, ?_⟩, by omega, by cbv⟩
      rw [show z1.toNat = z.toNat + 1 by omega, List.take_add_one, hs]
      have hne : ¬ (a', b', c') = (a, b, c) := of_decide_eq_false hr
      rw [List.contains_eq_any_beq] at h2 ⊢
      rw [List.any_append, h2]
      simp
      simp at hne
      intro e1 e2 e3
      exact hne e1.symm e2.symm e3.symm
  · repeat refine AWp.seq ?_
    refine AWp.reg1 {} hT (fun A hA => by
        have f0 := ar_nlt hA hz
        repeat (cbv; simp only [f0])
        cbv) (Nat.zero_le _) ?_
    try dsimp only [AExit.then, AExit.block]
    repeat refine AWp.seq ?_
    refine AWp.cond (b := false) rfl (AWp.exit ?_)
    try dsimp only [AExit.then, AExit.block]
    rw [if_pos rfl]
    repeat refine AWp.seq ?_
    refine AWp.reg1 {} hT (fun A hA => by cbv) (Nat.zero_le _) ?_
    try dsimp only [AExit.then, AExit.block]
    repeat refine AWp.seq ?_
    refine AWp.ret ⟨?_, rfl, rfl, Nat.zero_le _, _, rfl⟩
    rw [List.take_of_length_le (by omega)] at h2
    rw [h2]; rfl

theorem dAcc_inj : ∀ {a b : Acc}, dAcc a = dAcc b → a = b := by
  rintro ⟨a, b⟩ ⟨c, d⟩ h
  simp [dAcc] at h
  simp [h]
theorem sameAccesses_ok (x y : List (List Acc)) (hx : Big x) (hy : Big y) : ACall P 26 [.d (dX x), .d (dX y)] [] (AB (decide (x = y))) [] := by
  unfold dX
  obtain ⟨X, hX⟩ : ∃ X, x.map dAccs = X := ⟨_, rfl⟩
  obtain ⟨Y, hY⟩ : ∃ Y, y.map dAccs = Y := ⟨_, rfl⟩
  obtain ⟨n, hn⟩ : ∃ n : Int, (X.length : Int) = n := ⟨_, rfl⟩
  obtain ⟨m, hm⟩ : ∃ n : Int, (Y.length : Int) = n := ⟨_, rfl⟩
  have hpl : (x.length : Int) = n := by rw [← hn, ← hX]; simp
  have hql : (y.length : Int) = m := by rw [← hm, ← hY]; simp
  have hb1 := hx.1
  rw [hX, hY]
  refine ACall.enter hT (fn := Try.f26) Try.func26 rfl (by decide) (by simp [Try.f26]) rfl rfl rfl rfl (Nat.le_refl _) ?_
  repeat refine AWp.seq ?_
  refine AWp.reg1 {} hT (fun A hA => by cbv) (Nat.zero_le _) ?_
  try dsimp only [AExit.then, AExit.block]
  by_cases hnm : n = m
  · subst hnm
    repeat refine AWp.seq ?_
    refine AWp.reg1 {} hT (fun A hA => by
        have f0 := ar_len hA X n hn
        have f1 := ar_len hA Y n hm
        have f2 := ar_eq hA (rfl : n = n)
        repeat (cbv; simp only [f0, f1, f2])
        cbv) (Nat.zero_le _) ?_
    try dsimp only [AExit.then, AExit.block]
    repeat refine AWp.seq ?_
    refine AWp.cond (b := false) rfl (AWp.skip ?_)
    try dsimp only [AExit.then, AExit.block]
    repeat refine AWp.seq ?_
    refine AWp.reg1 {} hT (fun A hA => by
        have f0 := ar_len hA X n hn
        repeat (cbv; simp only [f0])
        cbv) (Nat.zero_le _) ?_
    try dsimp only [AExit.then, AExit.block]
    refine AWp.block (AWp.loopInv (ι := Int) (fun z => 0 ≤ z ∧ z ≤ n ∧ x.take z.toNat = y.take z.toNat) (fun z => (n - z).toNat) [0, 1, 13, 14]
      (fun z => { env := [(0, .d (.list 1 X)), (1, .d (.list 1 Y)), (13, AI n), (14, AI z)], heap := [], n := 53 }) 0 (by cbv) ⟨Int.le_refl _, by omega, by simp⟩ ?_)
    rintro z ⟨h0, h1, h2⟩
    by_cases hz : z < n
    · obtain ⟨z1, hz1⟩ : ∃ z1, z + 1 = z1 := ⟨_, rfl⟩
      obtain ⟨l, hl⟩ : ∃ s, x[z.toNat]? = some s := ⟨_, List.getElem?_eq_getElem (by omega)⟩
      obtain ⟨l', hl'⟩ : ∃ s, y[z.toNat]? = some s := ⟨_, List.getElem?_eq_getElem (by omega)⟩
      have hbl := hx.2 l (List.mem_of_getElem? hl)
      obtain ⟨L, hL⟩ : ∃ L, l.map dAcc = L := ⟨_, rfl⟩
      obtain ⟨L', hL'⟩ : ∃ L, l'.map dAcc = L := ⟨_, rfl⟩
      obtain ⟨k, hk⟩ : ∃ n : Int, (L.length : Int) = n := ⟨_, rfl⟩
      obtain ⟨k', hk'⟩ : ∃ n : Int, (L'.length : Int) = n := ⟨_, rfl⟩
      have hkl : (l.length : Int) = k := by rw [← hk, ← hL]; simp
      have hkl' : (l'.length : Int) = k' := by rw [← hk', ← hL']; simp
      have hXs : X[z.toNat]? = some (.list 2 L) := by rw [← hX, List.getElem?_map, hl, ← hL]; rfl
      have hYs : Y[z.toNat]? = some (.list 2 L') := by rw [← hY, List.getElem?_map, hl', ← hL']; rfl
      have hneq : l ≠ l' → x ≠ y := fun h e => by subst e; rw [hl] at hl'; cases hl'; exact h rfl
      repeat refine AWp.seq ?_
      refine AWp.reg1 {} hT (fun A hA => by
          have f0 := ar_lt hA hz
          repeat (cbv; simp only [f0])
          cbv) (Nat.zero_le _) ?_
      try dsimp only [AExit.then, AExit.block]
      repeat refine AWp.seq ?_
      refine AWp.cond (b := true) rfl (AWp.skip ?_)
      try dsimp only [AExit.then, AExit.block]
      repeat refine AWp.seq ?_
      refine AWp.block ?_
      repeat refine AWp.seq ?_
      refine AWp.reg1 {} hT (fun A hA => by cbv) (Nat.zero_le _) ?_
      try dsimp only [AExit.then, AExit.block]
      by_cases hkk : k = k'
      · subst hkk
        repeat refine AWp.seq ?_
        refine AWp.reg1D {} hT rfl (fun A hA => by
            have f0 := ar_get hA hXs
            have f1 := ar_le hA h0
            have f2 := ar_get hA hYs
            have f3 := ar_len hA L k hk
            have f4 := ar_len hA L' k hk'
            have f5 := ar_eq hA (rfl : k = k)
            repeat (cbv; simp only [f0, f1, f2, f3, f4, f5])
            cbv) (by kernel_rfl) (Nat.zero_le _) ?_
        try dsimp only [AExit.then, AExit.block]
        repeat refine AWp.seq ?_
        refine AWp.cond (b := false) rfl (AWp.skip ?_)
        try dsimp only [AExit.then, AExit.block]
        repeat refine AWp.seq ?_
        refine AWp.reg1 {} hT (fun A hA => by
            have f0 := ar_get hA hXs
            have f1 := ar_le hA h0
            have f2 := ar_len hA L k hk
            repeat (cbv; simp only [f0, f1, f2])
            cbv) (Nat.zero_le _) ?_
        try dsimp only [AExit.then, AExit.block]
        refine AWp.block (AWp.loopInv (ι := Int) (fun v => 0 ≤ v ∧ v ≤ k ∧ l.take v.toNat = l'.take v.toNat) (fun v => (k - v).toNat) [0, 1, 5, 13, 14, 32, 33]
          (fun v => { env := [(0, .d (.list 1 X)), (1, .d (.list 1 Y)), (5, AI z), (13, AI n), (14, AI z), (32, AI k), (33, AI v)], heap := [], n := 53 }) 0 (by cbv) ⟨Int.le_refl _, by omega, by simp⟩ ?_)
        rintro v ⟨g0, g1, g2⟩
        by_cases hv : v < k
        · obtain ⟨v1, hv1⟩ : ∃ z1, v + 1 = z1 := ⟨_, rfl⟩
          obtain ⟨⟨a, p⟩, hs⟩ : ∃ s, l[v.toNat]? = some s := ⟨_, List.getElem?_eq_getElem (by omega)⟩
          obtain ⟨⟨a', p'⟩, hs'⟩ : ∃ s, l'[v.toNat]? = some s := ⟨_, List.getElem?_eq_getElem (by omega)⟩
          have hLs : L[v.toNat]? = some (.agg [I a, .bool p]) := by rw [← hL, List.getElem?_map, hs]; rfl
          have hLs' : L'[v.toNat]? = some (.agg [I a', .bool p']) := by rw [← hL', List.getElem?_map, hs']; rfl
          obtain ⟨r, hr⟩ : ∃ r, decide ((a, p) = (a', p')) = r := ⟨_, rfl⟩
          have hdeq : ∀ A : Ar, A = Ar.std → A.deq [I a, .bool p] [I a', .bool p'] = r := fun A hA => ar_deq hA (by rw [← hr]; simp)
          repeat refine AWp.seq ?_
          refine AWp.reg1 {} hT (fun A hA => by
              have f0 := ar_lt hA hv
              repeat (cbv; simp only [f0])
              cbv) (Nat.zero_le _) ?_
          try dsimp only [AExit.then, AExit.block]
          repeat refine AWp.seq ?_
          refine AWp.cond (b := true) rfl (AWp.skip ?_)
          try dsimp only [AExit.then, AExit.block]
          repeat refine AWp.seq ?_
          refine AWp.block ?_
          repeat refine AWp.seq ?_
          refine AWp.reg1 {} hT (fun A hA => by cbv) (Nat.zero_le _) ?_
          try dsimp only [AExit.then, AExit.block]
          cases r with
          | true =>
            repeat refine AWp.seq ?_
            refine AWp.reg1D {} hT rfl (fun A hA => by
                have f0 := ar_get hA hXs
                have f1 := ar_le hA h0
                have f2 := ar_get hA hYs
                have f3 := ar_le hA g0
                have f4 := ar_get hA hLs
                have f5 := ar_get hA hLs'
                have f6 := hdeq A hA
                repeat (cbv; simp only [f0, f1, f2, f3, f4, f5, f6])
                cbv) (by kernel_rfl) (Nat.zero_le _) ?_
            try dsimp only [AExit.then, AExit.block]
            repeat refine AWp.seq ?_
            refine AWp.cond (b := false) rfl (AWp.skip ?_)
            try dsimp only [AExit.then, AExit.block]
            repeat refine AWp.seq ?_
            refine AWp.reg1 {} hT (fun A hA => by
                have f0 := ar_add hA v 1 v1 hv1 (by omega) (by omega)
                repeat (cbv; simp only [f0])
                cbv) (Nat.zero_le _) ?_
            try dsimp only [AExit.then, AExit.block]
            refine ⟨v1, ⟨by omega, by omega, ?_⟩, by omega, by cbv⟩
            rw [show v1.toNat = v.toNat + 1 by omega, List.take_add_one, List.take_add_one, g2, hs, hs']
            rw [of_decide_eq_true hr]
          | false =>
            repeat refine AWp.seq ?_
            refine AWp.reg1D {} hT rfl (fun A hA => by
                have f0 := ar_get hA hXs
                have f1 := ar_le hA h0
                have f2 := ar_get hA hYs
                have f3 := ar_le hA g0
                have f4 := ar_get hA hLs
                have f5 := ar_get hA hLs'
                have f6 := hdeq A hA
                repeat (cbv; simp only [f0, f1, f2, f3, f4, f5, f6])
                cbv) (by kernel_rfl) (Nat.zero_le _) ?_
            try dsimp only [AExit.then, AExit.block]
            repeat refine AWp.seq ?_
            refine AWp.cond (b := true) rfl ?_
            rw [if_pos rfl]
            repeat refine AWp.seq ?_
            refine AWp.reg1 {} hT (fun A hA => by cbv) (Nat.zero_le _) ?_
            try dsimp only [AExit.then, AExit.block]
            repeat refine AWp.seq ?_
            refine AWp.ret ⟨?_, rfl, rfl, Nat.zero_le _, _, rfl⟩
            have : x ≠ y := hneq (by
              rintro rfl
              rw [hs] at hs'
              cases hs'
              simp at hr)
            simp [this]; rfl
        · repeat refine AWp.seq ?_
          refine AWp.reg1 {} hT (fun A hA => by
              have f0 := ar_nlt hA hv
              repeat (cbv; simp only [f0])
              cbv) (Nat.zero_le _) ?_
          try dsimp only [AExit.then, AExit.block]
          repeat refine AWp.seq ?_
          refine AWp.cond (b := false) rfl (AWp.exit ?_)
          try dsimp only [AExit.then, AExit.block]
          rw [if_pos rfl]
          repeat refine AWp.seq ?_
          refine AWp.reg1 {} hT (fun A hA => by
              have f0 := ar_add hA z 1 z1 hz1 (by omega) (by omega)
              repeat (cbv; simp only [f0])
              cbv) (Nat.zero_le _) ?_
          try dsimp only [AExit.then, AExit.block]
          refine ⟨z1, ⟨by omega, by omega, ?_⟩, by omega, by cbv⟩
          rw [List.take_of_length_le (by omega), List.take_of_length_le (by omega)] at g2
          rw [show z1.toNat = z.toNat + 1 by omega, List.take_add_one, List.take_add_one, h2, hl, hl', g2]
      · repeat refine AWp.seq ?_
        refine AWp.reg1D {} hT rfl (fun A hA => by
            have f0 := ar_get hA hXs
            have f1 := ar_le hA h0
            have f2 := ar_get hA hYs
            have f3 := ar_len hA L k hk
            have f4 := ar_len hA L' k' hk'
            have f5 := ar_ne hA hkk
            repeat (cbv; simp only [f0, f1, f2, f3, f4, f5])
            cbv) (by kernel_rfl) (Nat.zero_le _) ?_
        try dsimp only [AExit.then, AExit.block]
        repeat refine AWp.seq ?_
        refine AWp.cond (b := true) rfl ?_
        rw [if_pos rfl]
        repeat refine AWp.seq ?_
        refine AWp.reg1 {} hT (fun A hA => by cbv) (Nat.zero_le _) ?_
        try dsimp only [AExit.then, AExit.block]
        repeat refine AWp.seq ?_
        refine AWp.ret ⟨?_, rfl, rfl, Nat.zero_le _, _, rfl⟩
        have : x ≠ y := hneq (by rintro rfl; omega)
        simp [this]; rfl
    · repeat refine AWp.seq ?_
      refine AWp.reg1 {} hT (fun A hA => by
          have f0 := ar_nlt hA hz
          repeat (cbv; simp only [f0])
          cbv) (Nat.zero_le _) ?_
      try dsimp only [AExit.then, AExit.block]
      repeat refine AWp.seq ?_
      refine AWp.cond (b := false) rfl (AWp.exit ?_)
      try dsimp only [AExit.then, AExit.block]
      rw [if_pos rfl]
      repeat refine AWp.seq ?_
      refine AWp.reg1 {} hT (fun A hA => by cbv) (Nat.zero_le _) ?_
      try dsimp only [AExit.then, AExit.block]
      repeat refine AWp.seq ?_
      refine AWp.ret ⟨?_, rfl, rfl, Nat.zero_le _, _, rfl⟩
      rw [List.take_of_length_le (by omega), List.take_of_length_le (by omega)] at h2
      simp [h2]; rfl
  · repeat refine AWp.seq ?_
    refine AWp.reg1 {} hT (fun A hA => by
        have f0 := ar_len hA X n hn
        have f1 := ar_len hA Y m hm
        have f2 := ar_ne hA hnm
        repeat (cbv; simp only [f0, f1, f2])
        cbv) (Nat.zero_le _) ?_
    try dsimp only [AExit.then, AExit.block]
    repeat refine AWp.seq ?_
    refine AWp.cond (b := true) rfl ?_
    rw [if_pos rfl]
    repeat refine AWp.seq ?_
    refine AWp.reg1 {} hT (fun A hA => by cbv) (Nat.zero_le _) ?_
    try dsimp only [AExit.then, AExit.block]
    repeat refine AWp.seq ?_
    refine AWp.ret ⟨?_, rfl, rfl, Nat.zero_le _, _, rfl⟩
    have : x ≠ y := by rintro rfl; omega
    simp [this]; rfl
end Go.Am
