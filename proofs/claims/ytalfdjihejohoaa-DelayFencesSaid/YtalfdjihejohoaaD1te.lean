/- Own text: D1tb, D1td, D1te. -/
import Derived.Test.YtalfdjihejohoaaD1ta
set_option maxRecDepth 100000
set_option linter.unusedVariables false
set_option linter.unusedSimpArgs false
namespace Go.Am
open Go Go.Proofs

/-- Threads that are turned round. -/
def turned (x : List (List Acc)) : List (List Acc) := x.map List.reverse
theorem scalars_dAcc (l : List Acc) : scalars (l.map dAcc) = true := by simp [scalars, dAcc, D.cells, D.scalar]

theorem Turned_ok (x : List (List Acc)) (hx : Big x) : ACall P 25 [.d (dX x)] [] (.tuple [.d (.list 1 (if valid x then (turned x).map dAccs else [])), AI (if valid x then 0 else 90)]) [] := by
  have cv := valid_ok x hx
  cases hv : valid x with
  | false =>
    rw [hv] at cv
    obtain ⟨X, hX⟩ : ∃ X, dX x = X := ⟨_, rfl⟩
    rw [hX] at cv ⊢
    refine ACall.enter hT (fn := Try.f25) Try.func25 rfl (by decide) (by simp [Try.f25]) rfl rfl rfl rfl (Nat.le_refl _) ?_
    repeat refine AWp.seq ?_
    refine AWp.reg1 {} hT (fun A hA => by cbv) (Nat.zero_le _) ?_
    try dsimp only [AExit.then, AExit.block]
    repeat refine AWp.seq ?_
    refine AWp.region ?_
    refine AOps.stepCall hT (an := {}) (fun A hA => by cbv) (Nat.zero_le _) rfl (.inr rfl) rfl rfl rfl (Nat.le_of_ble_eq_true rfl) rfl rfl (cv) ?_
    refine AOps.done hT (an := {}) (fun A hA => by cbv) (Nat.zero_le _) ?_
    try dsimp only [AExit.then, AExit.block]
    repeat refine AWp.seq ?_
    refine AWp.cond (b := true) rfl ?_
    rw [if_pos rfl]
    repeat refine AWp.seq ?_
    refine AWp.reg1 {} hT (fun A hA => by cbv) (Nat.zero_le _) ?_
    try dsimp only [AExit.then, AExit.block]
    repeat refine AWp.seq ?_
    refine AWp.ret ⟨?_, rfl, rfl, Nat.zero_le _, _, rfl⟩
    rfl
  | true =>
    have hsm := valid_small hv
    rw [hv] at cv
    simp only [if_true]
    unfold dX at *
    obtain ⟨X, hX⟩ : ∃ X, x.map dAccs = X := ⟨_, rfl⟩
    obtain ⟨n, hn⟩ : ∃ n : Int, (X.length : Int) = n := ⟨_, rfl⟩
    have hxl : (x.length : Int) = n := by rw [← hn, ← hX]; simp
    have hs := hsm.1
    rw [hX] at cv ⊢
    refine ACall.enter hT (fn := Try.f25) Try.func25 rfl (by decide) (by simp [Try.f25]) rfl rfl rfl rfl (Nat.le_refl _) ?_
    repeat refine AWp.seq ?_
    refine AWp.reg1 {} hT (fun A hA => by cbv) (Nat.zero_le _) ?_
    try dsimp only [AExit.then, AExit.block]
    repeat refine AWp.seq ?_
    refine AWp.region ?_
    refine AOps.stepCall hT (an := {}) (fun A hA => by cbv) (Nat.zero_le _) rfl (.inr rfl) rfl rfl rfl (Nat.le_of_ble_eq_true rfl) rfl rfl (cv) ?_
    refine AOps.done hT (an := {}) (fun A hA => by cbv) (Nat.zero_le _) ?_
    try dsimp only [AExit.then, AExit.block]
    repeat refine AWp.seq ?_
    refine AWp.cond (b := false) rfl (AWp.skip ?_)
    try dsimp only [AExit.then, AExit.block]
    repeat refine AWp.seq ?_
    refine AWp.reg1 {tk := [4]} hT (fun A hA => by cbv) (Nat.zero_le _) ?_
    try dsimp only [AExit.then, AExit.block]
    repeat refine AWp.seq ?_
    refine AWp.reg1 {} hT (fun A hA => by
        have f0 := ar_len hA X n hn
        repeat (cbv; simp only [f0])
        cbv) (Nat.zero_le _) ?_
    try dsimp only [AExit.then, AExit.block]
    refine AWp.block (AWp.loopH (ι := Int × List D) (fun p => 0 ≤ p.1 ∧ p.1 ≤ n ∧ p.2 = ((turned x).take p.1.toNat).map dAccs) (fun p => (n - p.1).toNat) [4, 10, 11, 12] 0
      (fun p => { env := [(4, .own 1 p.2), (10, .d (.list 1 X)), (11, AI n), (12, AI p.1)], heap := [], n := 26 }) (0, []) (Nat.le_refl _) rfl (by cbv) ⟨Int.le_refl _, by dsimp only; omega, by simp⟩ ?_)
    rintro ⟨z, L⟩ ⟨h0, h1, h2⟩
    dsimp only at *
    by_cases hz : z < n
    · obtain ⟨z1, hz1⟩ : ∃ z1, z + 1 = z1 := ⟨_, rfl⟩
      obtain ⟨l, hl⟩ : ∃ l, x[z.toNat]? = some l := ⟨_, List.getElem?_eq_getElem (by omega)⟩
      have hl1 := hsm.2 l (List.mem_of_getElem? hl)
      have hXt : X[z.toNat]? = some (dAccs l) := by rw [← hX, List.getElem?_map, hl]; rfl
      have hnext : ((turned x).take z1.toNat).map dAccs = L ++ [.list 2 (l.reverse.map dAcc)] := by
        rw [show z1.toNat = z.toNat + 1 by omega, List.take_add_one, List.map_append, ← h2]
        unfold turned
        rw [List.getElem?_map, hl]; rfl
      have hLl : (L.length : Int) ≤ z := by rw [h2]; simp; omega
      have ccl := clone_ok l hl1
      unfold dAccs at ccl hXt
      by_cases he : l = []
      · subst he
        simp only [List.map_nil, List.reverse_nil] at hnext ccl hXt
        obtain ⟨L1, hL1⟩ : ∃ l3, L ++ [.list 2 []] = l3 := ⟨_, rfl⟩
        repeat refine AWp.seq ?_
        refine AWp.reg1 {} hT (fun A hA => by
            have f0 := ar_lt hA hz
            repeat (cbv; simp only [f0])
            cbv) (Nat.zero_le _) ?_
        try dsimp only [AExit.then, AExit.block]
        repeat refine AWp.seq ?_
        refine AWp.cond (b := true) rfl (AWp.skip ?_)
        try dsimp only [AExit.then, AExit.block]
        repeat refine AWp.seq ?_
        refine AWp.block ?_
        repeat refine AWp.seq ?_
        refine AWp.reg1 {} hT (fun A hA => by
            have f0 := ar_get hA hXt
            have f1 := ar_le hA h0
            repeat (cbv; simp only [f0, f1])
            cbv) (Nat.zero_le _) ?_
        try dsimp only [AExit.then, AExit.block]
        repeat refine AWp.seq ?_
        refine AWp.region ?_
        refine AOps.stepCall hT (an := {}) (fun A hA => by cbv) (Nat.zero_le _) rfl (.inr rfl) rfl rfl rfl (Nat.le_of_ble_eq_true rfl) rfl rfl (ccl) ?_
        refine AOps.done hT (an := {}) (fun A hA => by cbv) (Nat.zero_le _) ?_
        try dsimp only [AExit.then, AExit.block]
        repeat refine AWp.seq ?_
        refine AWp.region ?_
        refine AOps.stepCall hT (an := {}) (fun A hA => by cbv) (Nat.zero_le _) rfl (.inr rfl) rfl rfl rfl (Nat.le_of_ble_eq_true rfl) rfl rfl (reverse0_ok) ?_
        refine AOps.done hT (an := {}) (fun A hA => by cbv) (Nat.zero_le _) ?_
        try dsimp only [AExit.then, AExit.block]
        repeat refine AWp.seq ?_
        refine AWp.reg1 {tk := [4, 20, 23]} hT (fun A hA => by
            have f0 := ar_app hA _ _ _ hL1
            have f1 := ar_fits hA L [.list 2 []] (by simp; omega)
            repeat (cbv; simp only [f0, f1])
            cbv) (Nat.zero_le _) ?_
        try dsimp only [AExit.then, AExit.block]
        repeat refine AWp.seq ?_
        refine AWp.reg1 {} hT (fun A hA => by
            have f0 := ar_add hA z 1 z1 hz1 (by omega) (by omega)
            repeat (cbv; simp only [f0])
            cbv) (Nat.zero_le _) ?_
        try dsimp only [AExit.then, AExit.block]
        refine ⟨rfl, (z1, L1), ⟨by dsimp only; omega, by dsimp only; omega, by dsimp only; rw [hnext, hL1]⟩, by dsimp only; omega, by cbv⟩
      · obtain ⟨k, hk⟩ : ∃ k : Int, (l.length : Int) = k := ⟨_, rfl⟩
        have hpos : 0 < l.length := List.length_pos_iff.2 he
        have crv := reverse_ok l k hk (by omega) (by omega)
        have cth := ACall.thaw ccl rfl rfl (by simpa using he) (scalars_dAcc l) (H := []) rfl (n := k) (by simpa using hk)
        have hsub : Ar.std.sub (l.reverse.map dAcc) 0 (0 + k) = l.reverse.map dAcc := by
          simp only [Ar.std]
          rw [List.take_of_length_le (by simp; omega)]; rfl
        have hrl : ((l.reverse.map dAcc).length : Int) = k := by simp; omega
        obtain ⟨M, hM⟩ : ∃ M, l.map dAcc = M := ⟨_, rfl⟩
        obtain ⟨R, hR⟩ : ∃ M, l.reverse.map dAcc = M := ⟨_, rfl⟩
        rw [hM] at cth crv hXt
        rw [hR] at crv hsub hnext hrl
        obtain ⟨L1, hL1⟩ : ∃ l3, L ++ [.list 2 R] = l3 := ⟨_, rfl⟩
        rw [hM] at ccl
        repeat refine AWp.seq ?_
        refine AWp.reg1 {} hT (fun A hA => by
            have f0 := ar_lt hA hz
            repeat (cbv; simp only [f0])
            cbv) (Nat.zero_le _) ?_
        try dsimp only [AExit.then, AExit.block]
        repeat refine AWp.seq ?_
        refine AWp.cond (b := true) rfl (AWp.skip ?_)
        try dsimp only [AExit.then, AExit.block]
        repeat refine AWp.seq ?_
        refine AWp.block ?_
        repeat refine AWp.seq ?_
        refine AWp.reg1 {} hT (fun A hA => by
            have f0 := ar_get hA hXt
            have f1 := ar_le hA h0
            repeat (cbv; simp only [f0, f1])
            cbv) (Nat.zero_le _) ?_
        try dsimp only [AExit.then, AExit.block]
        repeat refine AWp.seq ?_
        refine AWp.region ?_
        refine AOps.stepCallW hT (an := {}) (fun A hA => by cbv) (Nat.zero_le _) (by first | rfl | exact hin) (by first | rfl | simp [inbL, AV.inb, hbs]) rfl (Nat.le_of_ble_eq_true rfl) rfl (by first | rfl | simp [AV.free, hbf]) (cth) ?_
        refine AOps.done hT (an := {}) (fun A hA => by cbv) (Nat.zero_le _) ?_
        try dsimp only [AExit.then, AExit.block]
        repeat refine AWp.seq ?_
        refine AWp.region ?_
        refine AOps.stepCallW hT (an := {}) (fun A hA => by cbv) (Nat.zero_le _) (by first | rfl | exact hin) (by first | rfl | simp [inbL, AV.inb, hbs]) rfl (Nat.le_of_ble_eq_true rfl) rfl (by first | rfl | simp [AV.free, hbf]) (crv) ?_
        refine AOps.done hT (an := {}) (fun A hA => by cbv) (Nat.zero_le _) ?_
        try dsimp only [AExit.then, AExit.block]
        repeat refine AWp.seq ?_
        refine AWp.freeze (s := 6) (i := 0) (k := 2) (lo := 0) (n := k) (l := R) (l' := R) rfl rfl (by omega) hsub ?_
        repeat refine AWp.seq ?_
        refine AWp.reg1 {tk := [4, 20, 23]} hT (fun A hA => by
            have f0 := ar_app hA _ _ _ hL1
            have f1 := ar_fits hA L [.list 2 R] (by simp; omega)
            repeat (cbv; simp only [f0, f1])
            cbv) (Nat.zero_le _) ?_
        try dsimp only [AExit.then, AExit.block]
        repeat refine AWp.seq ?_
        refine AWp.reg1 {} hT (fun A hA => by
            have f0 := ar_add hA z 1 z1 hz1 (by omega) (by omega)
            repeat (cbv; simp only [f0])
            cbv) (Nat.zero_le _) ?_
        try dsimp only [AExit.then, AExit.block]
        refine ⟨rfl, (z1, L1), ⟨by dsimp only; omega, by dsimp only; omega, by dsimp only; rw [hnext, hL1]⟩, by dsimp only; omega, by cbv⟩
    · repeat refine AWp.seq ?_
      refine AWp.reg1 {} hT (fun A hA => by
          have f0 := ar_nlt hA hz
          repeat (cbv; simp only [f0])
          cbv) (Nat.zero_le _) ?_
      try dsimp only [AExit.then, AExit.block]
      repeat refine AWp.seq ?_
      refine AWp.cond (b := false) rfl (AWp.exit ?_)
      try dsimp only [AExit.then, AExit.block]
      rw [if_pos rfl]
      repeat refine AWp.seq ?_
      refine AWp.reg1 {} hT (fun A hA => by cbv) (Nat.zero_le _) ?_
      try dsimp only [AExit.then, AExit.block]
      repeat refine AWp.seq ?_
      refine AWp.ret ⟨?_, rfl, rfl, Nat.zero_le _, _, rfl⟩
      rw [h2, List.take_of_length_le (by unfold turned; simp; omega)]; rfl

theorem Needed_ok (x : List (List Acc)) (hx : Big x) (hsm : valid x = true → Small x ∧ (stations x).length ≤ 4000000000) : ACall P 27 [.d (dX x)] [] (.tuple [.d (.list 3 (if valid x then (neededL x).map dSta else [])), AI (if valid x then 0 else 90)]) [] := by
  have cv := valid_ok x hx
  cases hv : valid x with
  | false =>
    rw [hv] at cv
    obtain ⟨X, hX⟩ : ∃ X, dX x = X := ⟨_, rfl⟩
    rw [hX] at cv ⊢
    refine ACall.enter hT (fn := Try.f27) Try.func27 rfl (by decide) (by simp [Try.f27]) rfl rfl rfl rfl (Nat.le_refl _) ?_
    repeat refine AWp.seq ?_
    refine AWp.reg1 {} hT (fun A hA => by cbv) (Nat.zero_le _) ?_
    try dsimp only [AExit.then, AExit.block]
    repeat refine AWp.seq ?_
    refine AWp.region ?_
    refine AOps.stepCall hT (an := {}) (fun A hA => by cbv) (Nat.zero_le _) rfl (.inr rfl) rfl rfl rfl (Nat.le_of_ble_eq_true rfl) rfl rfl (cv) ?_
    refine AOps.done hT (an := {}) (fun A hA => by cbv) (Nat.zero_le _) ?_
    try dsimp only [AExit.then, AExit.block]
    repeat refine AWp.seq ?_
    refine AWp.cond (b := true) rfl ?_
    rw [if_pos rfl]
    repeat refine AWp.seq ?_
    refine AWp.reg1 {} hT (fun A hA => by cbv) (Nat.zero_le _) ?_
    try dsimp only [AExit.then, AExit.block]
    repeat refine AWp.seq ?_
    refine AWp.ret ⟨?_, rfl, rfl, Nat.zero_le _, _, rfl⟩
    rfl
  | true =>
    obtain ⟨hs, hlen⟩ := hsm hv
    rw [hv] at cv
    have cp := needed_ok x hs hlen
    have cpl := plain_ok (neededL x) (Nat.le_trans (List.length_filter_le _ _) (Nat.le_trans (List.length_filter_le _ _) hlen))
    simp only [if_true]
    obtain ⟨X, hX⟩ : ∃ X, dX x = X := ⟨_, rfl⟩
    obtain ⟨R, hR⟩ : ∃ R, (neededL x).map dSta = R := ⟨_, rfl⟩
    rw [hX] at cv cp ⊢
    rw [hR] at cp cpl ⊢
    refine ACall.enter hT (fn := Try.f27) Try.func27 rfl (by decide) (by simp [Try.f27]) rfl rfl rfl rfl (Nat.le_refl _) ?_
    repeat refine AWp.seq ?_
    refine AWp.reg1 {} hT (fun A hA => by cbv) (Nat.zero_le _) ?_
    try dsimp only [AExit.then, AExit.block]
    repeat refine AWp.seq ?_
    refine AWp.region ?_
    refine AOps.stepCall hT (an := {}) (fun A hA => by cbv) (Nat.zero_le _) rfl (.inr rfl) rfl rfl rfl (Nat.le_of_ble_eq_true rfl) rfl rfl (cv) ?_
    refine AOps.done hT (an := {}) (fun A hA => by cbv) (Nat.zero_le _) ?_
    try dsimp only [AExit.then, AExit.block]
    repeat refine AWp.seq ?_
    refine AWp.cond (b := false) rfl (AWp.skip ?_)
    try dsimp only [AExit.then, AExit.block]
    repeat refine AWp.seq ?_
    refine AWp.region ?_
    refine AOps.stepCall hT (an := {}) (fun A hA => by cbv) (Nat.zero_le _) rfl (.inr rfl) rfl rfl rfl (Nat.le_of_ble_eq_true rfl) rfl rfl (cp) ?_
    refine AOps.stepCall hT (an := {}) (fun A hA => by cbv) (Nat.zero_le _) rfl (.inr rfl) rfl rfl rfl (Nat.le_of_ble_eq_true rfl) rfl rfl (cpl) ?_
    refine AOps.done hT (an := {}) (fun A hA => by cbv) (Nat.zero_le _) ?_
    try dsimp only [AExit.then, AExit.block]
    repeat refine AWp.seq ?_
    refine AWp.ret ⟨?_, rfl, rfl, Nat.zero_le _, _, rfl⟩
    rfl

theorem in_sta_ok (l : List Sta) (s : Sta) (hl : l.length ≤ 9223372036854775807) : ACall P 28 [.d (.list 3 (l.map dSta)), .d (dSta s)] [] (AB (l.contains s)) [] := by
  obtain ⟨X, hX⟩ : ∃ X, l.map dSta = X := ⟨_, rfl⟩
  obtain ⟨n, hn⟩ : ∃ n : Int, (X.length : Int) = n := ⟨_, rfl⟩
  have hln : (l.length : Int) = n := by rw [← hn, ← hX]; simp
  obtain ⟨a, b, c⟩ := s
  unfold dSta
  dsimp only
  have hfun : (fun s => D.agg [I s.1, I s.2.1, I s.2.2]) = dSta := rfl
  rw [hfun, hX]
  refine ACall.enter hT (fn := Try.f28) Try.func28 rfl (by decide) (by simp [Try.f28]) rfl rfl rfl rfl (Nat.le_refl _) ?_
  repeat refine AWp.seq ?_
  refine AWp.reg1 {} hT (fun A hA => by cbv) (Nat.zero_le _) ?_
  try dsimp only [AExit.then, AExit.block]
  repeat refine AWp.seq ?_
  refine AWp.reg1 {} hT (fun A hA => by
      have f0 := ar_len hA X n hn
      repeat (cbv; simp only [f0])
      cbv) (Nat.zero_le _) ?_
  try dsimp only [AExit.then, AExit.block]
  refine AWp.block (AWp.loopInv (ι := Int) (fun z => 0 ≤ z ∧ z ≤ n ∧ (l.take z.toNat).contains (a, b, c) = false) (fun z => (n - z).toNat) [3, 7, 8, 9]
    (fun z => { env := [(3, .lbox [AI a, AI b, AI c]), (7, .d (.list 3 X)), (8, AI n), (9, AI z)], heap := [], n := 17 }) 0 (by cbv) ⟨Int.le_refl _, by omega, by simp⟩ ?_)
  rintro z ⟨h0, h1, h2⟩
  by_cases hz : z < n
  · obtain ⟨z1, hz1⟩ : ∃ z1, z + 1 = z1 := ⟨_, rfl⟩
    obtain ⟨⟨a', b', c'⟩, hs⟩ : ∃ s, l[z.toNat]? = some s := ⟨_, List.getElem?_eq_getElem (by omega)⟩
    have hXs : X[z.toNat]? = some (.agg [I a', I b', I c']) := by rw [← hX, List.getElem?_map, hs]; rfl
    obtain ⟨r, hr⟩ : ∃ r, decide ((a', b', c') = (a, b, c)) = r := ⟨_, rfl⟩
    have hdeq : ∀ A : Ar, A = Ar.std → A.deq [I a', I b', I c'] [I a, I b, I c] = r := fun A hA => ar_deq hA (by rw [← hr]; simp)
    repeat refine AWp.seq ?_
    refine AWp.reg1 {} hT (fun A hA => by
        have f0 := ar_lt hA hz
        repeat (cbv; simp only [f0])
        cbv) (Nat.zero_le _) ?_
    try dsimp only [AExit.then, AExit.block]
    repeat refine AWp.seq ?_
    refine AWp.cond (b := true) rfl (AWp.skip ?_)
    try dsimp only [AExit.then, AExit.block]
    repeat refine AWp.seq ?_
    refine AWp.block ?_
    repeat refine AWp.seq ?_
    refine AWp.reg1 {} hT (fun A hA => by
        have f0 := ar_get hA hXs
        have f1 := ar_le hA h0
        repeat (cbv; simp only [f0, f1])
        cbv) (Nat.zero_le _) ?_
    try dsimp only [AExit.then, AExit.block]
    cases r with
    | true =>
      repeat refine AWp.seq ?_
      refine AWp.reg1 {} hT (fun A hA => by
          have f0 := hdeq A hA
          repeat (cbv; simp only [f0])
          cbv) (Nat.zero_le _) ?_
      try dsimp only [AExit.then, AExit.block]
      repeat refine AWp.seq ?_
      refine AWp.cond (b := true) rfl ?_
      rw [if_pos rfl]
      repeat refine AWp.seq ?_
      refine AWp.reg1 {} hT (fun A hA => by cbv) (Nat.zero_le _) ?_
      try dsimp only [AExit.then, AExit.block]
      repeat refine AWp.seq ?_
      refine AWp.ret ⟨?_, rfl, rfl, Nat.zero_le _, _, rfl⟩
      have : l.contains (a, b, c) = true := by
        rw [← of_decide_eq_true hr]
        simpa using List.mem_of_getElem? hs
      rw [this]; rfl
    | false =>
      repeat refine AWp.seq ?_
      refine AWp.reg1 {} hT (fun A hA => by
          have f0 := hdeq A hA
          repeat (cbv; simp only [f0])
          cbv) (Nat.zero_le _) ?_
      try dsimp only [AExit.then, AExit.block]
      repeat refine AWp.seq ?_
      refine AWp.cond (b := false) rfl (AWp.skip ?_)
      try dsimp only [AExit.then, AExit.block]
      repeat refine AWp.seq ?_
      refine AWp.reg1 {} hT (fun A hA => by
          have f0 := ar_add hA z 1 z1 hz1 (by omega) (by omega)
          repeat (cbv; simp only [f0])
          cbv) (Nat.zero_le _) ?_
      try dsimp only [AExit.then, AExit.block]
      refine ⟨z1, ⟨by omega, by omega, ?_⟩, by omega, by cbv⟩
      rw [show z1.toNat = z.toNat + 1 by omega, List.take_add_one, hs]
      have hne : ¬ (a', b', c') = (a, b, c) := of_decide_eq_false hr
      rw [List.contains_eq_any_beq] at h2 ⊢
      rw [List.any_append, h2]
      simp
      simp at hne
      intro e1 e2 e3
      exact hne e1.symm e2.symm e3.symm
  · repeat refine AWp.seq ?_
    refine AWp.reg1 {} hT (fun A hA => by
        have f0 := ar_nlt hA hz
        repeat (cbv; simp only [f0])
        cbv) (Nat.zero_le _) ?_
    try dsimp only [AExit.then, AExit.block]
    repeat refine AWp.seq ?_
    refine AWp.cond (b := false) rfl (AWp.exit ?_)
    try dsimp only [AExit.then, AExit.block]
    rw [if_pos rfl]
    repeat refine AWp.seq ?_
    refine AWp.reg1 {} hT (fun A hA => by cbv) (Nat.zero_le _) ?_
    try dsimp only [AExit.then, AExit.block]
    repeat refine AWp.seq ?_
    refine AWp.ret ⟨?_, rfl, rfl, Nat.zero_le _, _, rfl⟩
    rw [List.take_of_length_le (by omega)] at h2
    rw [h2]; rfl

theorem dAcc_inj : ∀ {a b : Acc}, dAcc a = dAcc b → a = b := by
  rintro ⟨a, b⟩ ⟨c, d⟩ h
  simp [dAcc] at h
  simp [h]
theorem sameAccesses_ok (x y : List (List Acc)) (hx : Big x) (hy : Big y) : ACall P 26 [.d (dX x), .d (dX y)] [] (AB (decide (x = y))) [] := by
  unfold dX
  obtain ⟨X, hX⟩ : ∃ X, x.map dAccs = X := ⟨_, rfl⟩
  obtain ⟨Y, hY⟩ : ∃ Y, y.map dAccs = Y := ⟨_, rfl⟩
  obtain ⟨n, hn⟩ : ∃ n : Int, (X.length : Int) = n := ⟨_, rfl⟩
  obtain ⟨m, hm⟩ : ∃ n : Int, (Y.length : Int) = n := ⟨_, rfl⟩
  have hpl : (x.length : Int) = n := by rw [← hn, ← hX]; simp
  have hql : (y.length : Int) = m := by rw [← hm, ← hY]; simp
  have hb1 := hx.1
  rw [hX, hY]
  refine ACall.enter hT (fn := Try.f26) Try.func26 rfl (by decide) (by simp [Try.f26]) rfl rfl rfl rfl (Nat.le_refl _) ?_
  repeat refine AWp.seq ?_
  refine AWp.reg1 {} hT (fun A hA => by cbv) (Nat.zero_le _) ?_
  try dsimp only [AExit.then, AExit.block]
  by_cases hnm : n = m
  · subst hnm
    repeat refine AWp.seq ?_
    refine AWp.reg1 {} hT (fun A hA => by
        have f0 := ar_len hA X n hn
        have f1 := ar_len hA Y n hm
        have f2 := ar_eq hA (rfl : n = n)
        repeat (cbv; simp only [f0, f1, f2])
        cbv) (Nat.zero_le _) ?_
    try dsimp only [AExit.then, AExit.block]
    repeat refine AWp.seq ?_
    refine AWp.cond (b := false) rfl (AWp.skip ?_)
    try dsimp only [AExit.then, AExit.block]
    repeat refine AWp.seq ?_
    refine AWp.reg1 {} hT (fun A hA => by
        have f0 := ar_len hA X n hn
        repeat (cbv; simp only [f0])
        cbv) (Nat.zero_le _) ?_
    try dsimp only [AExit.then, AExit.block]
    refine AWp.block (AWp.loopInv (ι := Int) (fun z => 0 ≤ z ∧ z ≤ n ∧ x.take z.toNat = y.take z.toNat) (fun z => (n - z).toNat) [0, 1, 13, 14]
      (fun z => { env := [(0, .d (.list 1 X)), (1, .d (.list 1 Y)), (13, AI n), (14, AI z)], heap := [], n := 53 }) 0 (by cbv) ⟨Int.le_refl _, by omega, by simp⟩ ?_)
    rintro z ⟨h0, h1, h2⟩
    by_cases hz : z < n
    · obtain ⟨z1, hz1⟩ : ∃ z1, z + 1 = z1 := ⟨_, rfl⟩
      obtain ⟨l, hl⟩ : ∃ s, x[z.toNat]? = some s := ⟨_, List.getElem?_eq_getElem (by omega)⟩
      obtain ⟨l', hl'⟩ : ∃ s, y[z.toNat]? = some s := ⟨_, List.getElem?_eq_getElem (by omega)⟩
      have hbl := hx.2 l (List.mem_of_getElem? hl)
      obtain ⟨L, hL⟩ : ∃ L, l.map dAcc = L := ⟨_, rfl⟩
      obtain ⟨L', hL'⟩ : ∃ L, l'.map dAcc = L := ⟨_, rfl⟩
      obtain ⟨k, hk⟩ : ∃ n : Int, (L.length : Int) = n := ⟨_, rfl⟩
      obtain ⟨k', hk'⟩ : ∃ n : Int, (L'.length : Int) = n := ⟨_, rfl⟩
      have hkl : (l.length : Int) = k := by rw [← hk, ← hL]; simp
      have hkl' : (l'.length : Int) = k' := by rw [← hk', ← hL']; simp
      have hXs : X[z.toNat]? = some (.list 2 L) := by rw [← hX, List.getElem?_map, hl, ← hL]; rfl
      have hYs : Y[z.toNat]? = some (.list 2 L') := by rw [← hY, List.getElem?_map, hl', ← hL']; rfl
      have hneq : l ≠ l' → x ≠ y := fun h e => by subst e; rw [hl] at hl'; cases hl'; exact h rfl
      repeat refine AWp.seq ?_
      refine AWp.reg1 {} hT (fun A hA => by
          have f0 := ar_lt hA hz
          repeat (cbv; simp only [f0])
          cbv) (Nat.zero_le _) ?_
      try dsimp only [AExit.then, AExit.block]
      repeat refine AWp.seq ?_
      refine AWp.cond (b := true) rfl (AWp.skip ?_)
      try dsimp only [AExit.then, AExit.block]
      repeat refine AWp.seq ?_
      refine AWp.block ?_
      repeat refine AWp.seq ?_
      refine AWp.reg1 {} hT (fun A hA => by cbv) (Nat.zero_le _) ?_
      try dsimp only [AExit.then, AExit.block]
      by_cases hkk : k = k'
      · subst hkk
        repeat refine AWp.seq ?_
        refine AWp.reg1D {} hT rfl (fun A hA => by
            have f0 := ar_get hA hXs
            have f1 := ar_le hA h0
            have f2 := ar_get hA hYs
            have f3 := ar_len hA L k hk
            have f4 := ar_len hA L' k hk'
            have f5 := ar_eq hA (rfl : k = k)
            repeat (cbv; simp only [f0, f1, f2, f3, f4, f5])
            cbv) (by kernel_rfl) (Nat.zero_le _) ?_
        try dsimp only [AExit.then, AExit.block]
        repeat refine AWp.seq ?_
        refine AWp.cond (b := false) rfl (AWp.skip ?_)
        try dsimp only [AExit.then, AExit.block]
        repeat refine AWp.seq ?_
        refine AWp.reg1 {} hT (fun A hA => by
            have f0 := ar_get hA hXs
            have f1 := ar_le hA h0
            have f2 := ar_len hA L k hk
            repeat (cbv; simp only [f0, f1, f2])
            cbv) (Nat.zero_le _) ?_
        try dsimp only [AExit.then, AExit.block]
        refine AWp.block (AWp.loopInv (ι := Int) (fun v => 0 ≤ v ∧ v ≤ k ∧ l.take v.toNat = l'.take v.toNat) (fun v => (k - v).toNat) [0, 1, 5, 13, 14, 32, 33]
          (fun v => { env := [(0, .d (.list 1 X)), (1, .d (.list 1 Y)), (5, AI z), (13, AI n), (14, AI z), (32, AI k), (33, AI v)], heap := [], n := 53 }) 0 (by cbv) ⟨Int.le_refl _, by omega, by simp⟩ ?_)
        rintro v ⟨g0, g1, g2⟩
        by_cases hv : v < k
        · obtain ⟨v1, hv1⟩ : ∃ z1, v + 1 = z1 := ⟨_, rfl⟩
          obtain ⟨⟨a, p⟩, hs⟩ : ∃ s, l[v.toNat]? = some s := ⟨_, List.getElem?_eq_getElem (by omega)⟩
          obtain ⟨⟨a', p'⟩, hs'⟩ : ∃ s, l'[v.toNat]? = some s := ⟨_, List.getElem?_eq_getElem (by omega)⟩
          have hLs : L[v.toNat]? = some (.agg [I a, .bool p]) := by rw [← hL, List.getElem?_map, hs]; rfl
          have hLs' : L'[v.toNat]? = some (.agg [I a', .bool p']) := by rw [← hL', List.getElem?_map, hs']; rfl
          obtain ⟨r, hr⟩ : ∃ r, decide ((a, p) = (a', p')) = r := ⟨_, rfl⟩
          have hdeq : ∀ A : Ar, A = Ar.std → A.deq [I a, .bool p] [I a', .bool p'] = r := fun A hA => ar_deq hA (by rw [← hr]; simp)
          repeat refine AWp.seq ?_
          refine AWp.reg1 {} hT (fun A hA => by
              have f0 := ar_lt hA hv
              repeat (cbv; simp only [f0])
              cbv) (Nat.zero_le _) ?_
          try dsimp only [AExit.then, AExit.block]
          repeat refine AWp.seq ?_
          refine AWp.cond (b := true) rfl (AWp.skip ?_)
          try dsimp only [AExit.then, AExit.block]
          repeat refine AWp.seq ?_
          refine AWp.block ?_
          repeat refine AWp.seq ?_
          refine AWp.reg1 {} hT (fun A hA => by cbv) (Nat.zero_le _) ?_
          try dsimp only [AExit.then, AExit.block]
          cases r with
          | true =>
            repeat refine AWp.seq ?_
            refine AWp.reg1D {} hT rfl (fun A hA => by
                have f0 := ar_get hA hXs
                have f1 := ar_le hA h0
                have f2 := ar_get hA hYs
                have f3 := ar_le hA g0
                have f4 := ar_get hA hLs
                have f5 := ar_get hA hLs'
                have f6 := hdeq A hA
                repeat (cbv; simp only [f0, f1, f2, f3, f4, f5, f6])
                cbv) (by kernel_rfl) (Nat.zero_le _) ?_
            try dsimp only [AExit.then, AExit.block]
            repeat refine AWp.seq ?_
            refine AWp.cond (b := false) rfl (AWp.skip ?_)
            try dsimp only [AExit.then, AExit.block]
            repeat refine AWp.seq ?_
            refine AWp.reg1 {} hT (fun A hA => by
                have f0 := ar_add hA v 1 v1 hv1 (by omega) (by omega)
                repeat (cbv; simp only [f0])
                cbv) (Nat.zero_le _) ?_
            try dsimp only [AExit.then, AExit.block]
            refine ⟨v1, ⟨by omega, by omega, ?_⟩, by omega, by cbv⟩
            rw [show v1.toNat = v.toNat + 1 by omega, List.take_add_one, List.take_add_one, g2, hs, hs']
            rw [of_decide_eq_true hr]
          | false =>
            repeat refine AWp.seq ?_
            refine AWp.reg1D {} hT rfl (fun A hA => by
                have f0 := ar_get hA hXs
                have f1 := ar_le hA h0
                have f2 := ar_get hA hYs
                have f3 := ar_le hA g0
                have f4 := ar_get hA hLs
                have f5 := ar_get hA hLs'
                have f6 := hdeq A hA
                repeat (cbv; simp only [f0, f1, f2, f3, f4, f5, f6])
                cbv) (by kernel_rfl) (Nat.zero_le _) ?_
            try dsimp only [AExit.then, AExit.block]
            repeat refine AWp.seq ?_
            refine AWp.cond (b := true) rfl ?_
            rw [if_pos rfl]
            repeat refine AWp.seq ?_
            refine AWp.reg1 {} hT (fun A hA => by cbv) (Nat.zero_le _) ?_
            try dsimp only [AExit.then, AExit.block]
            repeat refine AWp.seq ?_
            refine AWp.ret ⟨?_, rfl, rfl, Nat.zero_le _, _, rfl⟩
            have : x ≠ y := hneq (by
              rintro rfl
              rw [hs] at hs'
              cases hs'
              simp at hr)
            simp [this]; rfl
        · repeat refine AWp.seq ?_
          refine AWp.reg1 {} hT (fun A hA => by
              have f0 := ar_nlt hA hv
              repeat (cbv; simp only [f0])
              cbv) (Nat.zero_le _) ?_
          try dsimp only [AExit.then, AExit.block]
          repeat refine AWp.seq ?_
          refine AWp.cond (b := false) rfl (AWp.exit ?_)
          try dsimp only [AExit.then, AExit.block]
          rw [if_pos rfl]
          repeat refine AWp.seq ?_
          refine AWp.reg1 {} hT (fun A hA => by
              have f0 := ar_add hA z 1 z1 hz1 (by omega) (by omega)
              repeat (cbv; simp only [f0])
              cbv) (Nat.zero_le _) ?_
          try dsimp only [AExit.then, AExit.block]
          refine ⟨z1, ⟨by omega, by omega, ?_⟩, by omega, by cbv⟩
          rw [List.take_of_length_le (by omega), List.take_of_length_le (by omega)] at g2
          rw [show z1.toNat = z.toNat + 1 by omega, List.take_add_one, List.take_add_one, h2, hl, hl', g2]
      · repeat refine AWp.seq ?_
        refine AWp.reg1D {} hT rfl (fun A hA => by
            have f0 := ar_get hA hXs
            have f1 := ar_le hA h0
            have f2 := ar_get hA hYs
            have f3 := ar_len hA L k hk
            have f4 := ar_len hA L' k' hk'
            have f5 := ar_ne hA hkk
            repeat (cbv; simp only [f0, f1, f2, f3, f4, f5])
            cbv) (by kernel_rfl) (Nat.zero_le _) ?_
        try dsimp only [AExit.then, AExit.block]
        repeat refine AWp.seq ?_
        refine AWp.cond (b := true) rfl ?_
        rw [if_pos rfl]
        repeat refine AWp.seq ?_
        refine AWp.reg1 {} hT (fun A hA => by cbv) (Nat.zero_le _) ?_
        try dsimp only [AExit.then, AExit.block]
        repeat refine AWp.seq ?_
        refine AWp.ret ⟨?_, rfl, rfl, Nat.zero_le _, _, rfl⟩
        have : x ≠ y := hneq (by rintro rfl; omega)
        simp [this]; rfl
    · repeat refine AWp.seq ?_
      refine AWp.reg1 {} hT (fun A hA => by
          have f0 := ar_nlt hA hz
          repeat (cbv; simp only [f0])
          cbv) (Nat.zero_le _) ?_
      try dsimp only [AExit.then, AExit.block]
      repeat refine AWp.seq ?_
      refine AWp.cond (b := false) rfl (AWp.exit ?_)
      try dsimp only [AExit.then, AExit.block]
      rw [if_pos rfl]
      repeat refine AWp.seq ?_
      refine AWp.reg1 {} hT (fun A hA => by cbv) (Nat.zero_le _) ?_
      try dsimp only [AExit.then, AExit.block]
      repeat refine AWp.seq ?_
      refine AWp.ret ⟨?_, rfl, rfl, Nat.zero_le _, _, rfl⟩
      rw [List.take_of_length_le (by omega), List.take_of_length_le (by omega)] at h2
      simp [h2]; rfl
  · repeat refine AWp.seq ?_
    refine AWp.reg1 {} hT (fun A hA => by
        have f0 := ar_len hA X n hn
        have f1 := ar_len hA Y m hm
        have f2 := ar_ne hA hnm
        repeat (cbv; simp only [f0, f1, f2])
        cbv) (Nat.zero_le _) ?_
    try dsimp only [AExit.then, AExit.block]
    repeat refine AWp.seq ?_
    refine AWp.cond (b := true) rfl ?_
    rw [if_pos rfl]
    repeat refine AWp.seq ?_
    refine AWp.reg1 {} hT (fun A hA => by cbv) (Nat.zero_le _) ?_
    try dsimp only [AExit.then, AExit.block]
    repeat refine AWp.seq ?_
    refine AWp.ret ⟨?_, rfl, rfl, Nat.zero_le _, _, rfl⟩
    have : x ≠ y := by rintro rfl; omega
    simp [this]; rfl
end Go.Am

set_option maxRecDepth 100000
set_option linter.unusedVariables false
set_option linter.unusedSimpArgs false
namespace Go.Am
open Go Go.Proofs

/-- A station of threads that are turned round. -/
def mir (x : List (List Acc)) (s : Sta) : Sta := (s.1, ((x.getD s.1.toNat []).length : Int) - 1 - s.2.2, ((x.getD s.1.toNat []).length : Int) - 1 - s.2.1)

theorem DelayTurns_ok (x : List (List Acc)) (hx : Big x) (hyb : Big (turned x)) (h1 : valid x = true → valid (turned x) = true) (h2 : turned (turned x) = x) (h3 : valid x = true → (neededL (turned x)).length = (neededL x).length) (h4 : valid x = true → nCirc (turned x) = nCirc x)
    (h5 : ∀ s ∈ neededL x, (neededL (turned x)).contains (mir x s) = true) (h6 : ∀ s ∈ neededL x, isThere x s = true) :
    ACall P 5 [.d (dX x)] [] (AB true) [] := by
  have clo := long_ok x hx
  have cv := validR_ok x hx
  have caw := awake_ok
  cases hlo : long x with
  | true =>
    rw [hlo] at clo
    obtain ⟨X, hX⟩ : ∃ X, dX x = X := ⟨_, rfl⟩
    rw [hX] at clo ⊢
    refine ACall.enter hT (fn := Try.f5) Try.func5 rfl (by decide) (by simp [Try.f5]) rfl rfl rfl rfl (Nat.le_refl _) ?_
    repeat refine AWp.seq ?_
    refine AWp.reg1 {} hT (fun A hA => by cbv) (Nat.zero_le _) ?_
    try dsimp only [AExit.then, AExit.block]
    repeat refine AWp.seq ?_
    refine AWp.region ?_
    refine AOps.stepCall hT (an := {}) (fun A hA => by cbv) (Nat.zero_le _) rfl (.inr rfl) rfl rfl rfl (Nat.le_of_ble_eq_true rfl) rfl rfl (clo) ?_
    refine AOps.done hT (an := {}) (fun A hA => by cbv) (Nat.zero_le _) ?_
    try dsimp only [AExit.then, AExit.block]
    repeat refine AWp.seq ?_
    refine AWp.cond (b := true) rfl ?_
    rw [if_pos rfl]
    repeat refine AWp.seq ?_
    refine AWp.region ?_
    refine AOps.stepCall hT (an := {}) (fun A hA => by cbv) (Nat.zero_le _) rfl (.inr rfl) rfl rfl rfl (Nat.le_of_ble_eq_true rfl) rfl rfl (caw) ?_
    refine AOps.done hT (an := {}) (fun A hA => by cbv) (Nat.zero_le _) ?_
    try dsimp only [AExit.then, AExit.block]
    repeat refine AWp.seq ?_
    refine AWp.ret ⟨?_, rfl, rfl, Nat.zero_le _, _, rfl⟩
    rfl
  | false =>
    rw [hlo] at clo
    cases hv : valid x with
    | false =>
      rw [hv] at cv
      obtain ⟨X, hX⟩ : ∃ X, dX x = X := ⟨_, rfl⟩
      rw [hX] at clo cv ⊢
      refine ACall.enter hT (fn := Try.f5) Try.func5 rfl (by decide) (by simp [Try.f5]) rfl rfl rfl rfl (Nat.le_refl _) ?_
      repeat refine AWp.seq ?_
      refine AWp.reg1 {} hT (fun A hA => by cbv) (Nat.zero_le _) ?_
      try dsimp only [AExit.then, AExit.block]
      repeat refine AWp.seq ?_
      refine AWp.region ?_
      refine AOps.stepCall hT (an := {}) (fun A hA => by cbv) (Nat.zero_le _) rfl (.inr rfl) rfl rfl rfl (Nat.le_of_ble_eq_true rfl) rfl rfl (clo) ?_
      refine AOps.stepCall hT (an := {}) (fun A hA => by cbv) (Nat.zero_le _) rfl (.inr rfl) rfl rfl rfl (Nat.le_of_ble_eq_true rfl) rfl rfl (cv) ?_
      refine AOps.done hT (an := {}) (fun A hA => by cbv) (Nat.zero_le _) ?_
      try dsimp only [AExit.then, AExit.block]
      repeat refine AWp.seq ?_
      refine AWp.cond (b := true) rfl ?_
      rw [if_pos rfl]
      repeat refine AWp.seq ?_
      refine AWp.region ?_
      refine AOps.stepCall hT (an := {}) (fun A hA => by cbv) (Nat.zero_le _) rfl (.inr rfl) rfl rfl rfl (Nat.le_of_ble_eq_true rfl) rfl rfl (caw) ?_
      refine AOps.done hT (an := {}) (fun A hA => by cbv) (Nat.zero_le _) ?_
      try dsimp only [AExit.then, AExit.block]
      repeat refine AWp.seq ?_
      refine AWp.ret ⟨?_, rfl, rfl, Nat.zero_le _, _, rfl⟩
      rfl
    | true =>
      have hvy := h1 hv
      have h3 := h3 hv
      have h4 := h4 hv
      have hsm := valid_small hv
      have c1 := Turned_ok x hx
      have c2 := Turned_ok (turned x) hyb
      have c3 := sameAccesses_ok x x hx hx
      have c4 := validR_ok (turned x) hyb
      have c5 := Needed_ok x hx (fun h => ⟨valid_small h, Nat.le_trans (stations_48 h) (by omega)⟩)
      have c6 := Needed_ok (turned x) hyb (fun h => ⟨valid_small h, Nat.le_trans (stations_48 h) (by omega)⟩)
      have c7 := Circles_ok x hx
      have c8 := Circles_ok (turned x) hyb
      have hnl : (neededL x).length ≤ 48 := Nat.le_trans (List.length_filter_le _ _) (Nat.le_trans (List.length_filter_le _ _) (stations_48 hv))
      have cin := fun s => in_sta_ok (neededL (turned x)) s (by omega)
      rw [hv] at c1 c5 c7 cv
      rw [hvy] at c2 c4 c6 c8
      rw [h2] at c2
      rw [h4] at c8
      rw [decide_eq_true rfl] at c3
      simp only [if_true] at c1 c2 c5 c6 c7 c8
      have hdx : AV.d (.list 1 ((turned x).map dAccs)) = AV.d (dX (turned x)) := rfl
      have hdx2 : AV.d (.list 1 (x.map dAccs)) = AV.d (dX x) := rfl
      rw [hdx] at c1
      rw [hdx2] at c2
      have hr : ∀ s ∈ neededL x, ∃ (L : List D) (k : Int), 0 ≤ s.1 ∧ s.1 < (x.length : Int) ∧ (x.map dAccs)[s.1.toNat]? = some (.list 2 L) ∧ (L.length : Int) = k ∧ k ≤ 1000 ∧ mir x s = (s.1, k - 1 - s.2.2, k - 1 - s.2.1) ∧ 0 ≤ s.2.1 ∧ s.2.1 < k ∧ 0 ≤ s.2.2 ∧ s.2.2 < k := by
        intro s hs
        have := h6 s hs
        unfold isThere at this
        simp only [Bool.and_eq_true] at this
        obtain ⟨e0, e1, l, e2, e3⟩ := there_get this.1
        obtain ⟨_, g1, l', g2, g3⟩ := there_get this.2
        have : l' = l := by rw [e2] at g2; cases g2; rfl
        subst this
        have hlt := (List.getElem?_eq_some_iff.1 e2).1
        have q1 := (List.getElem?_eq_some_iff.1 e3).1
        have q2 := (List.getElem?_eq_some_iff.1 g3).1
        have q3 := hsm.2 l' (List.mem_of_getElem? e2)
        refine ⟨l'.map dAcc, l'.length, e0, by omega, by rw [List.getElem?_map, e2]; rfl, by simp, by omega, ?_, e1, by omega, g1, by omega⟩
        unfold mir
        rw [List.getD_eq_getElem?_getD, e2]; rfl
      obtain ⟨Y, hY⟩ : ∃ Y, dX (turned x) = Y := ⟨_, rfl⟩
      rw [hY] at c1 c2 c4 c6 c8
      unfold dX at *
      obtain ⟨X, hX⟩ : ∃ X, x.map dAccs = X := ⟨_, rfl⟩
      obtain ⟨n, hn⟩ : ∃ n : Int, (X.length : Int) = n := ⟨_, rfl⟩
      have hxl : (x.length : Int) = n := by rw [← hn, ← hX]; simp
      rw [hxl] at hr
      rw [hX] at clo cv c1 c2 c3 c5 c7 hr ⊢
      obtain ⟨N, hN⟩ : ∃ N : Int, (nCirc x : Int) = N := ⟨_, rfl⟩
      rw [hN] at c7 c8
      obtain ⟨p, hp⟩ : ∃ p, neededL x = p := ⟨_, rfl⟩
      obtain ⟨q, hq⟩ : ∃ p, neededL (turned x) = p := ⟨_, rfl⟩
      rw [hp] at c5 h3 h5 hr hnl
      rw [hq] at c6 h3 h5
      simp only [hq] at cin
      obtain ⟨p', hp'⟩ : ∃ p', p.map dSta = p' := ⟨_, rfl⟩
      obtain ⟨q', hq'⟩ : ∃ p', q.map dSta = p' := ⟨_, rfl⟩
      rw [hp'] at c5
      rw [hq'] at c6
      simp only [hq'] at cin
      obtain ⟨k, hk⟩ : ∃ n : Int, (p'.length : Int) = n := ⟨_, rfl⟩
      have hk' : (q'.length : Int) = k := by rw [← hk, ← hp', ← hq']; simp; omega
      have hpk : (p.length : Int) = k := by rw [← hk, ← hp']; simp
      refine ACall.enter hT (fn := Try.f5) Try.func5 rfl (by decide) (by simp [Try.f5]) rfl rfl rfl rfl (Nat.le_refl _) ?_
      repeat refine AWp.seq ?_
      refine AWp.reg1 {} hT (fun A hA => by cbv) (Nat.zero_le _) ?_
      try dsimp only [AExit.then, AExit.block]
      repeat refine AWp.seq ?_
      refine AWp.region ?_
      refine AOps.stepCall hT (an := {}) (fun A hA => by cbv) (Nat.zero_le _) rfl (.inr rfl) rfl rfl rfl (Nat.le_of_ble_eq_true rfl) rfl rfl (clo) ?_
      refine AOps.stepCall hT (an := {}) (fun A hA => by cbv) (Nat.zero_le _) rfl (.inr rfl) rfl rfl rfl (Nat.le_of_ble_eq_true rfl) rfl rfl (cv) ?_
      refine AOps.done hT (an := {}) (fun A hA => by cbv) (Nat.zero_le _) ?_
      try dsimp only [AExit.then, AExit.block]
      repeat refine AWp.seq ?_
      refine AWp.cond (b := false) rfl (AWp.skip ?_)
      try dsimp only [AExit.then, AExit.block]
      repeat refine AWp.seq ?_
      refine AWp.region ?_
      refine AOps.stepCall hT (an := {}) (fun A hA => by cbv) (Nat.zero_le _) rfl (.inr rfl) rfl rfl rfl (Nat.le_of_ble_eq_true rfl) rfl rfl (c1) ?_
      refine AOps.done hT (an := {}) (fun A hA => by cbv) (Nat.zero_le _) ?_
      try dsimp only [AExit.then, AExit.block]
      repeat refine AWp.seq ?_
      refine AWp.region ?_
      refine AOps.stepCall hT (an := {}) (fun A hA => by cbv) (Nat.zero_le _) rfl (.inr rfl) rfl rfl rfl (Nat.le_of_ble_eq_true rfl) rfl rfl (c2) ?_
      refine AOps.done hT (an := {}) (fun A hA => by cbv) (Nat.zero_le _) ?_
      try dsimp only [AExit.then, AExit.block]
      repeat refine AWp.seq ?_
      refine AWp.region ?_
      refine AOps.stepCall hT (an := {}) (fun A hA => by
          have f0 := ar_eq hA (rfl : (0 : Int) = 0)
          repeat (cbv; simp only [f0])
          cbv) (Nat.zero_le _) rfl (.inr rfl) rfl rfl rfl (Nat.le_of_ble_eq_true rfl) rfl rfl (c3) ?_
      refine AOps.stepCall hT (an := {}) (fun A hA => by cbv) (Nat.zero_le _) rfl (.inr rfl) rfl rfl rfl (Nat.le_of_ble_eq_true rfl) rfl rfl (c4) ?_
      refine AOps.done hT (an := {}) (fun A hA => by cbv) (Nat.zero_le _) ?_
      try dsimp only [AExit.then, AExit.block]
      repeat refine AWp.seq ?_
      refine AWp.cond (b := false) rfl (AWp.skip ?_)
      try dsimp only [AExit.then, AExit.block]
      repeat refine AWp.seq ?_
      refine AWp.region ?_
      refine AOps.stepCall hT (an := {}) (fun A hA => by cbv) (Nat.zero_le _) rfl (.inr rfl) rfl rfl rfl (Nat.le_of_ble_eq_true rfl) rfl rfl (c5) ?_
      refine AOps.done hT (an := {}) (fun A hA => by cbv) (Nat.zero_le _) ?_
      try dsimp only [AExit.then, AExit.block]
      repeat refine AWp.seq ?_
      refine AWp.region ?_
      refine AOps.stepCall hT (an := {}) (fun A hA => by cbv) (Nat.zero_le _) rfl (.inr rfl) rfl rfl rfl (Nat.le_of_ble_eq_true rfl) rfl rfl (c6) ?_
      refine AOps.done hT (an := {}) (fun A hA => by cbv) (Nat.zero_le _) ?_
      try dsimp only [AExit.then, AExit.block]
      repeat refine AWp.seq ?_
      refine AWp.region ?_
      refine AOps.stepCall hT (an := {}) (fun A hA => by cbv) (Nat.zero_le _) rfl (.inr rfl) rfl rfl rfl (Nat.le_of_ble_eq_true rfl) rfl rfl (c7) ?_
      refine AOps.done hT (an := {}) (fun A hA => by cbv) (Nat.zero_le _) ?_
      try dsimp only [AExit.then, AExit.block]
      repeat refine AWp.seq ?_
      refine AWp.region ?_
      refine AOps.stepCall hT (an := {}) (fun A hA => by cbv) (Nat.zero_le _) rfl (.inr rfl) rfl rfl rfl (Nat.le_of_ble_eq_true rfl) rfl rfl (c8) ?_
      refine AOps.done hT (an := {}) (fun A hA => by cbv) (Nat.zero_le _) ?_
      try dsimp only [AExit.then, AExit.block]
      repeat refine AWp.seq ?_
      refine AWp.reg1 {} hT (fun A hA => by
          have f0 := ar_eq hA (rfl : (0 : Int) = 0)
          have f1 := ar_len hA p' k hk
          have f2 := ar_len hA q' k hk'
          have f3 := ar_eq hA (rfl : k = k)
          have f4 := ar_eq hA (rfl : N = N)
          repeat (cbv; simp only [f0, f1, f2, f3, f4])
          cbv) (Nat.zero_le _) ?_
      try dsimp only [AExit.then, AExit.block]
      repeat refine AWp.seq ?_
      refine AWp.cond (b := false) rfl (AWp.skip ?_)
      try dsimp only [AExit.then, AExit.block]
      repeat refine AWp.seq ?_
      refine AWp.reg1 {} hT (fun A hA => by
          have f0 := ar_len hA p' k hk
          repeat (cbv; simp only [f0])
          cbv) (Nat.zero_le _) ?_
      try dsimp only [AExit.then, AExit.block]
      refine AWp.block (AWp.loopInv (ι := Int) (fun z => 0 ≤ z ∧ z ≤ k) (fun z => (k - z).toNat) [0, 8, 97, 98, 99]
        (fun z => { env := [(0, .d (.list 1 X)), (8, .d (.list 3 q')), (97, .d (.list 3 p')), (98, AI k), (99, AI z)], heap := [], n := 136 }) 0 (by cbv) ⟨Int.le_refl _, by omega⟩ ?_)
      rintro z ⟨z0, zk⟩
      by_cases hz : z < k
      · obtain ⟨z1, hz1⟩ : ∃ z1, z + 1 = z1 := ⟨_, rfl⟩
        obtain ⟨s, hs⟩ : ∃ s, p[z.toNat]? = some s := ⟨_, List.getElem?_eq_getElem (by omega)⟩
        obtain ⟨L, m, e0, e1, e2, e3, e4, e5, e6, e7, e8, e9⟩ := hr s (List.mem_of_getElem? hs)
        have hc := cin (mir x s)
        rw [h5 s (List.mem_of_getElem? hs), e5] at hc
        obtain ⟨t, a, b⟩ := s
        unfold dSta at hc
        dsimp only at e0 e1 e2 e6 e7 e8 e9 hc
        have hPs : p'[z.toNat]? = some (.agg [I t, I a, I b]) := by rw [← hp', List.getElem?_map, hs]; rfl
        obtain ⟨m1, hm1⟩ : ∃ m1, m - 1 = m1 := ⟨_, rfl⟩
        obtain ⟨b1, hb1⟩ : ∃ m2, m1 - b = m2 := ⟨_, rfl⟩
        obtain ⟨a1, ha1⟩ : ∃ m2, m1 - a = m2 := ⟨_, rfl⟩
        rw [hm1, hb1, ha1] at hc
        repeat refine AWp.seq ?_
        refine AWp.reg1 {} hT (fun A hA => by
            have f0 := ar_lt hA hz
            repeat (cbv; simp only [f0])
            cbv) (Nat.zero_le _) ?_
        try dsimp only [AExit.then, AExit.block]
        repeat refine AWp.seq ?_
        refine AWp.cond (b := true) rfl (AWp.skip ?_)
        try dsimp only [AExit.then, AExit.block]
        repeat refine AWp.seq ?_
        refine AWp.block ?_
        repeat refine AWp.seq ?_
        refine AWp.reg1 {} hT (fun A hA => by
            have f0 := ar_get hA hPs
            have f1 := ar_le hA z0
            repeat (cbv; simp only [f0, f1])
            cbv) (Nat.zero_le _) ?_
        try dsimp only [AExit.then, AExit.block]
        repeat refine AWp.seq ?_
        refine AWp.reg1 {} hT (fun A hA => by
            have f0 := ar_nlt hA (show ¬ t < 0 by omega)
            have f1 := ar_len hA X n hn
            have f2 := ar_nle hA (show ¬ n ≤ t by omega)
            repeat (cbv; simp only [f0, f1, f2])
            cbv) (Nat.zero_le _) ?_
        try dsimp only [AExit.then, AExit.block]
        repeat refine AWp.seq ?_
        refine AWp.cond (b := false) rfl (AWp.skip ?_)
        try dsimp only [AExit.then, AExit.block]
        repeat refine AWp.seq ?_
        refine AWp.reg1 {} hT (fun A hA => by
            have f0 := ar_get hA e2
            have f1 := ar_le hA e0
            have f2 := ar_len hA L m e3
            have f3 := ar_sub hA m 1 m1 hm1 (by omega) (by omega)
            repeat (cbv; simp only [f0, f1, f2, f3])
            cbv) (Nat.zero_le _) ?_
        try dsimp only [AExit.then, AExit.block]
        repeat refine AWp.seq ?_
        refine AWp.region ?_
        refine AOps.stepCall hT (an := {}) (fun A hA => by
            have f0 := ar_sub hA m1 b b1 hb1 (by omega) (by omega)
            have f1 := ar_sub hA m1 a a1 ha1 (by omega) (by omega)
            repeat (cbv; simp only [f0, f1])
            cbv) (Nat.zero_le _) rfl (.inr rfl) rfl rfl rfl (Nat.le_of_ble_eq_true rfl) rfl rfl (hc) ?_
        refine AOps.done hT (an := {}) (fun A hA => by cbv) (Nat.zero_le _) ?_
        try dsimp only [AExit.then, AExit.block]
        repeat refine AWp.seq ?_
        refine AWp.cond (b := false) rfl (AWp.skip ?_)
        try dsimp only [AExit.then, AExit.block]
        repeat refine AWp.seq ?_
        refine AWp.reg1 {} hT (fun A hA => by
            have f0 := ar_add hA z 1 z1 hz1 (by omega) (by omega)
            repeat (cbv; simp only [f0])
            cbv) (Nat.zero_le _) ?_
        try dsimp only [AExit.then, AExit.block]
        exact ⟨z1, ⟨by omega, by omega⟩, by omega, by cbv⟩
      · repeat refine AWp.seq ?_
        refine AWp.reg1 {} hT (fun A hA => by
            have f0 := ar_nlt hA hz
            repeat (cbv; simp only [f0])
            cbv) (Nat.zero_le _) ?_
        try dsimp only [AExit.then, AExit.block]
        repeat refine AWp.seq ?_
        refine AWp.cond (b := false) rfl (AWp.exit ?_)
        try dsimp only [AExit.then, AExit.block]
        rw [if_pos rfl]
        repeat refine AWp.seq ?_
        refine AWp.region ?_
        refine AOps.stepCall hT (an := {}) (fun A hA => by cbv) (Nat.zero_le _) rfl (.inr rfl) rfl rfl rfl (Nat.le_of_ble_eq_true rfl) rfl rfl (caw) ?_
        refine AOps.done hT (an := {}) (fun A hA => by cbv) (Nat.zero_le _) ?_
        try dsimp only [AExit.then, AExit.block]
        repeat refine AWp.seq ?_
        refine AWp.ret ⟨?_, rfl, rfl, Nat.zero_le _, _, rfl⟩
        rfl
end Go.Am

set_option maxRecDepth 100000
set_option linter.unusedVariables false
set_option linter.unusedSimpArgs false
namespace Go.Am
open Go Go.Proofs

/-! ### Stations -/
/-- A station that is within the accesses. -/
def inS (x : List (List Acc)) (s : Sta) : Prop := 0 ≤ s.1 ∧ s.1 < (x.length : Int) ∧ 0 ≤ s.2.1 ∧ s.2.1 ≤ s.2.2 ∧ s.2.2 < ((x.getD s.1.toNat []).length : Int) ∧ (s.2.1 = s.2.2 ∨ isPair x s = true)
theorem mem_stations_iff {x : List (List Acc)} {s : Sta} : s ∈ stations x ↔ inS x s := by
  unfold stations staT staA staB
  simp only [List.mem_flatMap, List.mem_range, List.mem_map, List.mem_filter, Bool.and_eq_true, Bool.or_eq_true, decide_eq_true_eq]
  constructor
  · rintro ⟨t, ht, a, ha, b, ⟨hb, hab, hor⟩, rfl⟩
    refine ⟨by simp, by simp; omega, by simp, by simp; omega, by simpa using hb, ?_⟩
    rcases hor with h | h
    · exact .inl (by simp; omega)
    · exact .inr h
  · obtain ⟨t, a, b⟩ := s
    rintro ⟨h1, h2, h3, h4, h5, h6⟩
    dsimp only at *
    refine ⟨t.toNat, by omega, a.toNat, by omega, b.toNat, ⟨by omega, by omega, ?_⟩, by simp; omega⟩
    rcases h6 with h | h
    · exact .inl (by omega)
    · right
      rw [show ((t.toNat : Nat) : Int) = t by omega, show ((a.toNat : Nat) : Int) = a by omega, show ((b.toNat : Nat) : Int) = b by omega]
      exact h
theorem nodup_flatMap {α β : Type} {l : List α} {g : α → List β} (h1 : l.Nodup) (h2 : ∀ a ∈ l, (g a).Nodup) (h3 : ∀ a ∈ l, ∀ b ∈ l, a ≠ b → ∀ y ∈ g a, ∀ z ∈ g b, y ≠ z) : (l.flatMap g).Nodup := by
  induction l with
  | nil => simp
  | cons a r ih =>
    rw [List.flatMap_cons, List.nodup_append]
    rw [List.nodup_cons] at h1
    refine ⟨h2 a (by simp), ih h1.2 (fun b hb => h2 b (by simp [hb])) (fun b hb c hc => h3 b (by simp [hb]) c (by simp [hc])), fun y hy z hz => ?_⟩
    obtain ⟨b, hb, hz⟩ := List.mem_flatMap.1 hz
    exact h3 a (by simp) b (by simp [hb]) (fun e => h1.1 (e ▸ hb)) y hy z hz
theorem nodup_range (n : Nat) : (List.range n).Nodup := List.nodup_range
theorem stations_nodup (x : List (List Acc)) : (stations x).Nodup := by
  unfold stations staT
  refine nodup_flatMap List.nodup_range (fun t _ => ?_) (fun t _ u _ hne y hy z hz => ?_)
  · unfold staA
    refine nodup_flatMap List.nodup_range (fun a _ => ?_) (fun a _ b _ hne y hy z hz => ?_)
    · unfold staB
      refine List.Pairwise.map _ ?_ (List.Pairwise.filter _ List.nodup_range)
      intro b c h e
      simp at e
      exact h (by omega)
    · unfold staB at hy hz
      obtain ⟨_, _, rfl⟩ := List.mem_map.1 hy
      obtain ⟨_, _, rfl⟩ := List.mem_map.1 hz
      simp; omega
  · unfold staA at hy hz
    obtain ⟨_, _, hy⟩ := List.mem_flatMap.1 hy
    obtain ⟨_, _, hz⟩ := List.mem_flatMap.1 hz
    unfold staB at hy hz
    obtain ⟨_, _, rfl⟩ := List.mem_map.1 hy
    obtain ⟨_, _, rfl⟩ := List.mem_map.1 hz
    simp; omega

/-! ### Circles -/
theorem mem_circFrom (x : List (List Acc)) (all : List Sta) : ∀ (k : Nat) (l l' : List Sta), l' ∈ circFrom x all k l ↔
    ∃ m, l' = l ++ m ∧ m.length ≤ k ∧ (∀ s ∈ m, s ∈ all) ∧ (∀ (i : Nat) (hi : i < m.length), nextOk x (l ++ m.take i) m[i] = true) ∧ 2 ≤ l'.length ∧ isCircle x l' = true := by
  have here : ∀ l l', l' ∈ circHere x l ↔ l' = l ∧ 2 ≤ l'.length ∧ isCircle x l' = true := by
    intro l l'
    unfold circHere
    split
    · rename_i h
      simp only [Bool.and_eq_true, decide_eq_true_eq] at h
      simp only [List.mem_singleton]
      exact ⟨fun e => by subst e; exact ⟨rfl, h⟩, fun e => e.1⟩
    · rename_i h
      simp only [Bool.and_eq_true, decide_eq_true_eq] at h
      simp only [List.not_mem_nil, false_iff]
      rintro ⟨rfl, h2⟩; exact h h2
  intro k
  induction k with
  | zero =>
    intro l l'
    unfold circFrom
    rw [here]
    constructor
    · rintro ⟨rfl, h⟩; exact ⟨[], by simp, by simp, by simp, by simp, h⟩
    · rintro ⟨m, rfl, hm, _, _, h⟩
      obtain rfl : m = [] := List.length_eq_zero_iff.1 (by omega)
      simpa using h
  | succ k ih =>
    intro l l'
    unfold circFrom
    rw [List.mem_append, here, List.mem_flatMap]
    constructor
    · rintro (⟨rfl, h⟩ | ⟨st, hst, h⟩)
      · exact ⟨[], by simp, by simp, by simp, by simp, h⟩
      · split at h
        · rename_i hn
          obtain ⟨m, rfl, h1, h2, h3, h4⟩ := (ih _ _).1 h
          refine ⟨st :: m, by simp, by simp; omega, fun s hs => ?_, fun i hi => ?_, h4⟩
          · rcases List.mem_cons.1 hs with rfl | hs
            · exact hst
            · exact h2 s hs
          · cases i with
            | zero => simpa using hn
            | succ i => have := h3 i (by simpa using hi); simpa using this
        · simp at h
    · rintro ⟨m, rfl, h1, h2, h3, h4⟩
      cases m with
      | nil => left; simpa using h4
      | cons st m =>
        right
        refine ⟨st, h2 st (by simp), ?_⟩
        have := h3 0 (by simp)
        simp only [List.take_zero, List.append_nil, List.getElem_cons_zero] at this
        rw [if_pos this, ih]
        refine ⟨m, by simp, by simp at h1; omega, fun s hs => h2 s (by simp [hs]), fun i hi => ?_, h4⟩
        have := h3 (i + 1) (by simp; omega)
        simpa using this

theorem circle_next {x : List (List Acc)} {l : List Sta} (h : isCircle x l = true) (i : Nat) (hi : i < l.length) : nextOk x (l.take i) l[i] = true := by
  unfold nextOk
  cases i with
  | zero => simp
  | succ i =>
    unfold isCircle at h
    simp only [Bool.and_eq_true, List.all_eq_true, List.mem_range] at h
    have h1 := h.1 i (by omega)
    unfold circAt at h1
    simp only [Bool.and_eq_true] at h1
    have h2 := h1.1
    have e1 : (i + 1) % l.length = i + 1 := Nat.mod_eq_of_lt hi
    rw [e1] at h2
    have e2 : lastOf (l.take (i + 1)) = l.getD i (0, 0, 0) := by
      unfold lastOf
      rw [List.getD_eq_getElem?_getD, List.getD_eq_getElem?_getD]
      congr 1
      rw [List.length_take, show min (i + 1) l.length - 1 = i by omega, List.getElem?_take_of_lt (by omega)]
    have e3 : l[i + 1] = l.getD (i + 1) (0, 0, 0) := by rw [List.getD_eq_getElem?_getD, List.getElem?_eq_getElem hi]; rfl
    rw [e2, e3, h2]
    simp

theorem mem_circles_iff {x : List (List Acc)} {l : List Sta} : l ∈ circles x ↔ 2 ≤ l.length ∧ l.length ≤ 3 ∧ (∀ s ∈ l, s ∈ stations x) ∧ isCircle x l = true := by
  unfold circles
  rw [mem_circFrom]
  constructor
  · rintro ⟨m, rfl, h1, h2, _, h3, h4⟩
    simp only [List.nil_append] at *
    exact ⟨h3, h1, h2, h4⟩
  · rintro ⟨h1, h2, h3, h4⟩
    refine ⟨l, by simp, h2, h3, fun i hi => ?_, h1, h4⟩
    simpa using circle_next h4 i hi

theorem circFrom_nodup (x : List (List Acc)) (all : List Sta) (hall : all.Nodup) : ∀ (k : Nat) (l : List Sta), (circFrom x all k l).Nodup := by
  have here : ∀ l, (circHere x l).Nodup := by intro l; unfold circHere; split <;> simp
  intro k
  induction k with
  | zero => intro l; unfold circFrom; exact here l
  | succ k ih =>
    intro l
    unfold circFrom
    rw [List.nodup_append]
    have hpre : ∀ st y, y ∈ (if nextOk x l st then circFrom x all k (l ++ [st]) else []) → ∃ m, y = l ++ [st] ++ m := by
      intro st y hy
      split at hy
      · obtain ⟨m, rfl, _⟩ := (mem_circFrom x all k _ _).1 hy
        exact ⟨m, rfl⟩
      · simp at hy
    refine ⟨here l, nodup_flatMap hall (fun st _ => by split; exact ih _; simp) (fun a _ b _ hne y hy z hz => ?_), fun y hy z hz => ?_⟩
    · obtain ⟨m, rfl⟩ := hpre a y hy
      obtain ⟨m', rfl⟩ := hpre b z hz
      intro e
      rw [List.append_assoc, List.append_assoc] at e
      have := List.append_cancel_left e
      simp at this
      exact hne this.1
    · obtain ⟨st, _, hz⟩ := List.mem_flatMap.1 hz
      obtain ⟨m, rfl⟩ := hpre st z hz
      unfold circHere at hy
      split at hy
      · simp at hy; subst hy
        intro e
        have := congrArg List.length e
        simp at this
      · simp at hy
theorem circles_nodup (x : List (List Acc)) : (circles x).Nodup := circFrom_nodup x _ (stations_nodup x) 3 []

theorem length_le_of_nodup {α : Type} [DecidableEq α] : ∀ {l m : List α}, l.Nodup → (∀ a ∈ l, a ∈ m) → l.length ≤ m.length
  | [], _, _, _ => by simp
  | a :: l, m, h, hs => by
    rw [List.nodup_cons] at h
    have ha := hs a (by simp)
    have := length_le_of_nodup (l := l) (m := m.erase a) h.2 (fun b hb => by
      have : b ≠ a := fun e => h.1 (e ▸ hb)
      exact (List.mem_erase_of_ne this).2 (hs b (by simp [hb])))
    rw [List.length_erase_of_mem ha] at this
    have := List.length_pos_of_mem ha
    simp only [List.length_cons]
    omega
theorem length_le_of_inj {α β : Type} [DecidableEq β] {l : List α} {m : List β} (f : α → β) (h : l.Nodup) (hf : ∀ a ∈ l, ∀ b ∈ l, f a = f b → a = b) (hs : ∀ a ∈ l, f a ∈ m) : l.length ≤ m.length := by
  have h1 : (l.map f).Nodup := by
    unfold List.Nodup at *
    rw [List.pairwise_map]
    exact h.imp_of_mem (fun {a b} ha hb hne e => hne (hf a ha b hb e))
  have := length_le_of_nodup h1 (m := m) (fun b hb => by obtain ⟨a, ha, rfl⟩ := List.mem_map.1 hb; exact hs a ha)
  simpa using this

/-! ### Turned round -/
section
variable (x : List (List Acc))
theorem turned_len : (turned x).length = x.length := by simp [turned]
theorem turned_getD (t : Nat) : (turned x).getD t [] = (x.getD t []).reverse := by
  unfold turned
  rw [List.getD_eq_getElem?_getD, List.getElem?_map, List.getD_eq_getElem?_getD]
  cases x[t]? <;> simp
theorem turned_rowlen (t : Nat) : ((turned x).getD t []).length = (x.getD t []).length := by rw [turned_getD]; simp
theorem turned_turned : turned (turned x) = x := by
  unfold turned
  rw [List.map_map]
  have : (List.reverse ∘ List.reverse : List Acc → List Acc) = id := funext List.reverse_reverse
  rw [this, List.map_id]
theorem mir_turned (s : Sta) : mir (turned x) s = mir x s := by unfold mir; rw [turned_rowlen]
def rl (t : Int) : Int := ((x.getD t.toNat []).length : Int)
theorem acc_getD (t a : Int) : acc x t a = ((x.getD t.toNat [])[a.toNat]?).getD (0, false) := by
  unfold acc
  rw [List.getD_eq_getElem?_getD]
  cases x[t.toNat]? <;> simp
theorem acc_turned (t a : Int) (h0 : 0 ≤ a) (h1 : a < rl x t) : acc (turned x) t (rl x t - 1 - a) = acc x t a := by
  unfold rl at *
  rw [acc_getD, acc_getD, turned_getD, List.getElem?_reverse (by omega)]
  congr 2; omega
theorem there_iff (t a : Int) : there x t a = true ↔ 0 ≤ t ∧ t < (x.length : Int) ∧ 0 ≤ a ∧ a < rl x t := by
  unfold there rl
  rw [List.getD_eq_getElem?_getD]
  simp only [Bool.and_eq_true, decide_eq_true_eq]
  constructor
  · rintro ⟨h0, h⟩
    split at h
    · rename_i L hL
      simp only [Bool.and_eq_true, decide_eq_true_eq] at h
      have := (List.getElem?_eq_some_iff.1 hL).1
      rw [hL]
      exact ⟨h0, by omega, h.1, h.2⟩
    · cases h
  · rintro ⟨h0, h1, h2, h3⟩
    refine ⟨h0, ?_⟩
    rw [List.getElem?_eq_getElem (by omega)] at h3 ⊢
    simpa using ⟨h2, h3⟩
theorem conflict_turned (t a u b : Int) (h0 : 0 ≤ a) (h1 : a < rl x t) (g0 : 0 ≤ b) (g1 : b < rl x u) : conflict (turned x) t (rl x t - 1 - a) u (rl x u - 1 - b) = conflict x t a u b := by
  unfold conflict
  rw [acc_turned x t a h0 h1, acc_turned x u b g0 g1]
theorem conflict_comm (t a u b : Int) : conflict x t a u b = conflict x u b t a := by
  unfold conflict
  rw [Bool.or_comm]
  congr 2
  · rw [decide_eq_decide]; exact ⟨fun h e => h e.symm, fun h e => h e.symm⟩
  · rw [decide_eq_decide]; exact ⟨fun h => h.symm, fun h => h.symm⟩
theorem isPair_iff (s : Sta) : isPair x s = true ↔ s.2.1 < s.2.2 ∧ there x s.1 s.2.1 = true ∧ there x s.1 s.2.2 = true ∧ (acc x s.1 s.2.1).1 ≠ (acc x s.1 s.2.2).1 := by
  unfold isPair
  simp only [Bool.and_eq_true, decide_eq_true_eq, and_assoc]
theorem mir_mk (t a b : Int) : mir x (t, a, b) = (t, rl x t - 1 - b, rl x t - 1 - a) := rfl
theorem isPair_mir (s : Sta) (h : isPair x s = true) : isPair (turned x) (mir x s) = true := by
  obtain ⟨t, a, b⟩ := s
  rw [isPair_iff] at *
  rw [mir_mk]
  dsimp only at *
  obtain ⟨h1, h2, h3, h4⟩ := h
  have e2 := (there_iff x t a).1 h2
  have e3 := (there_iff x t b).1 h3
  refine ⟨by omega, (there_iff _ _ _).2 ?_, (there_iff _ _ _).2 ?_, ?_⟩
  · rw [turned_len]; unfold rl at *; rw [turned_rowlen]; omega
  · rw [turned_len]; unfold rl at *; rw [turned_rowlen]; omega
  · rw [acc_turned x t a e2.2.2.1 e2.2.2.2, acc_turned x t b e3.2.2.1 e3.2.2.2]; exact fun e => h4 e.symm
theorem inS_mir {s : Sta} (h : inS x s) : inS (turned x) (mir x s) := by
  obtain ⟨t, a, b⟩ := s
  obtain ⟨h1, h2, h3, h4, h5, h6⟩ := h
  rw [mir_mk]
  unfold inS rl
  dsimp only at *
  rw [turned_len, turned_rowlen]
  refine ⟨h1, h2, by omega, by omega, by omega, ?_⟩
  rcases h6 with h | h
  · exact .inl (by omega)
  · exact .inr (isPair_mir x (t, a, b) h)
theorem mir_mir (s : Sta) : mir x (mir x s) = s := by
  obtain ⟨t, a, b⟩ := s
  rw [mir_mk, mir_mk]
  simp; omega
theorem mir_inj {s u : Sta} (h : mir x s = mir x u) : s = u := by
  have := congrArg (mir x) h
  rwa [mir_mir, mir_mir] at this

theorem circ2 (p q : Sta) : isCircle x [p, q] = (conflict x p.1 p.2.2 q.1 q.2.1 && (conflict x q.1 q.2.2 p.1 p.2.1 && !decide (p.1 = q.1)) && (isPair x p || isPair x q)) := by
  simp [isCircle, circAt, List.range_succ, List.all_append]
theorem circ3 (p q r : Sta) : isCircle x [p, q, r] = (conflict x p.1 p.2.2 q.1 q.2.1 && ((conflict x q.1 q.2.2 r.1 r.2.1 && !decide (p.1 = q.1)) && (conflict x r.1 r.2.2 p.1 p.2.1 && !(decide (p.1 = r.1) || decide (q.1 = r.1)))) && (isPair x p || (isPair x q || isPair x r))) := by
  simp [isCircle, circAt, List.range_succ, List.all_append, Bool.and_assoc]

def mirL (l : List Sta) : List Sta := (l.map (mir x)).reverse
theorem conflict_mir {p q : Sta} (hp : inS x p) (hq : inS x q) : conflict (turned x) (mir x q).1 (mir x q).2.2 (mir x p).1 (mir x p).2.1 = conflict x p.1 p.2.2 q.1 q.2.1 := by
  obtain ⟨t, a, b⟩ := p
  obtain ⟨u, c, d⟩ := q
  obtain ⟨h1, h2, h3, h4, h5, h6⟩ := hp
  obtain ⟨g1, g2, g3, g4, g5, g6⟩ := hq
  rw [mir_mk, mir_mk]
  dsimp only at *
  rw [conflict_turned x u c t b g3 (by unfold rl; omega) (by omega) h5, conflict_comm]
theorem isPair_mir_eq (s : Sta) : isPair (turned x) (mir x s) = isPair x s := by
  rw [Bool.eq_iff_iff]
  constructor
  · intro h
    have := isPair_mir (turned x) _ h
    rwa [turned_turned, mir_turned, mir_mir] at this
  · exact isPair_mir x s
theorem mir_fst (s : Sta) : (mir x s).1 = s.1 := rfl

theorem isCircle_mirL {l : List Sta} (h2 : 2 ≤ l.length) (h3 : l.length ≤ 3) (hl : ∀ s ∈ l, inS x s) (hc : isCircle x l = true) : isCircle (turned x) (mirL x l) = true := by
  match l, h2, h3 with
  | [p, q], _, _ =>
    have hp := hl p (by simp)
    have hq := hl q (by simp)
    show isCircle (turned x) [mir x q, mir x p] = true
    rw [circ2] at hc ⊢
    rw [conflict_mir x hp hq, conflict_mir x hq hp, isPair_mir_eq, isPair_mir_eq, mir_fst, mir_fst]
    simp only [Bool.and_eq_true, Bool.or_eq_true, Bool.not_eq_true', decide_eq_false_iff_not] at hc ⊢
    obtain ⟨⟨c1, c2, c3⟩, c4⟩ := hc
    exact ⟨⟨c1, c2, fun e => c3 e.symm⟩, c4.symm⟩
  | [p, q, r], _, _ =>
    have hp := hl p (by simp)
    have hq := hl q (by simp)
    have hr := hl r (by simp)
    show isCircle (turned x) [mir x r, mir x q, mir x p] = true
    rw [circ3] at hc ⊢
    rw [conflict_mir x hq hr, conflict_mir x hp hq, conflict_mir x hr hp, isPair_mir_eq, isPair_mir_eq, isPair_mir_eq]
    simp only [mir_fst]
    simp only [Bool.and_eq_true, Bool.or_eq_true, Bool.not_eq_true', decide_eq_false_iff_not, Bool.or_eq_false_iff] at hc ⊢
    obtain ⟨⟨c1, ⟨c2, c3⟩, c4, c5, c6⟩, c7⟩ := hc
    have d6 : ¬ q.1 = r.1 := by simpa using c6
    have d5 : ¬ p.1 = r.1 := by simpa using c5
    have d3 : ¬ p.1 = q.1 := by simpa using c3
    refine ⟨⟨c2, ⟨c1, by first | exact Ne.symm d6 | exact decide_eq_false (Ne.symm d6)⟩, c4, by first | exact Ne.symm d5 | exact decide_eq_false (Ne.symm d5), by first | exact Ne.symm d3 | exact decide_eq_false (Ne.symm d3)⟩, ?_⟩
    rcases c7 with c | c | c
    · exact .inr (.inr c)
    · exact .inr (.inl c)
    · exact .inl c

theorem circles_mirL {l : List Sta} (h : l ∈ circles x) : mirL x l ∈ circles (turned x) := by
  obtain ⟨h1, h2, h3, h4⟩ := mem_circles_iff.1 h
  have hin : ∀ s ∈ l, inS x s := fun s hs => mem_stations_iff.1 (h3 s hs)
  refine mem_circles_iff.2 ⟨by simp [mirL]; omega, by simp [mirL]; omega, fun s hs => ?_, isCircle_mirL x h1 h2 hin h4⟩
  unfold mirL at hs
  rw [List.mem_reverse, List.mem_map] at hs
  obtain ⟨u, hu, rfl⟩ := hs
  exact mem_stations_iff.2 (inS_mir x (hin u hu))
theorem mirL_inj {l m : List Sta} (h : mirL x l = mirL x m) : l = m := by
  unfold mirL at h
  have h2 := List.reverse_inj.1 h
  have h3 := congrArg (List.map (mir x)) h2
  rw [List.map_map, List.map_map] at h3
  have : (mir x ∘ mir x) = id := funext (mir_mir x)
  rwa [this, List.map_id, List.map_id] at h3

theorem nCirc_le : nCirc x ≤ nCirc (turned x) :=
  length_le_of_inj (mirL x) (circles_nodup x) (fun a _ b _ h => mirL_inj x h) (fun l hl => circles_mirL x hl)
theorem mem_needed_iff {s : Sta} : s ∈ neededL x ↔ s ∈ stations x ∧ isPair x s = true ∧ ∃ l ∈ circles x, s ∈ l := by
  unfold neededL pairsL inCircle
  simp only [List.mem_filter, List.contains_eq_mem, decide_eq_true_eq, List.mem_flatten, and_assoc]
theorem needed_mir {s : Sta} (h : s ∈ neededL x) : mir x s ∈ neededL (turned x) := by
  obtain ⟨h1, h2, l, hl, hs⟩ := (mem_needed_iff x).1 h
  refine (mem_needed_iff _).2 ⟨mem_stations_iff.2 (inS_mir x (mem_stations_iff.1 h1)), isPair_mir x s h2, mirL x l, circles_mirL x hl, ?_⟩
  unfold mirL
  rw [List.mem_reverse]
  exact List.mem_map_of_mem hs
theorem needed_nodup : (neededL x).Nodup := by
  unfold neededL pairsL
  exact (List.Pairwise.filter _ (List.Pairwise.filter _ (stations_nodup x)))
theorem needed_le : (neededL x).length ≤ (neededL (turned x)).length :=
  length_le_of_inj (mir x) (needed_nodup x) (fun a _ b _ h => mir_inj x h) (fun s hs => needed_mir x hs)
end

theorem valid_turned (x : List (List Acc)) (h : valid x = true) : valid (turned x) = true := by
  unfold valid at *
  rw [turned_len]
  simp only [Bool.and_eq_true, Bool.not_eq_true'] at *
  refine ⟨h.1, ?_⟩
  rw [List.any_eq_false] at *
  intro l hl
  unfold turned at hl
  obtain ⟨l', hl', rfl⟩ := List.mem_map.1 hl
  have := h.2 l' hl'
  unfold badL at *
  simp only [List.length_reverse, List.any_reverse] at *
  exact this
theorem big_turned (x : List (List Acc)) (h : Big x) : Big (turned x) := by
  refine ⟨by rw [turned_len]; exact h.1, fun l hl => ?_⟩
  unfold turned at hl
  obtain ⟨l', hl', rfl⟩ := List.mem_map.1 hl
  rw [List.length_reverse]
  exact h.2 l' hl'

theorem DelayTurns_all (x : List (List Acc)) (hx : Big x) : ACall P 5 [.d (dX x)] [] (AB true) [] := by
  refine DelayTurns_ok x hx (big_turned x hx) (valid_turned x) (turned_turned x) (fun _ => ?_) (fun _ => ?_) (fun s hs => ?_) (fun s hs => ?_)
  · refine Nat.le_antisymm ?_ (needed_le x)
    have := needed_le (turned x)
    rwa [turned_turned] at this
  · refine Nat.le_antisymm ?_ (nCirc_le x)
    have := nCirc_le (turned x)
    rwa [turned_turned] at this
  · rw [List.contains_eq_mem, decide_eq_true_eq]
    exact needed_mir x hs
  · exact mem_stations ((mem_needed_iff x).1 hs).1
end Go.Am
