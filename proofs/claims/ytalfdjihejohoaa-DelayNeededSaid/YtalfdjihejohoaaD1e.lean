/- Own text: D1e. -/
import Derived.Test.YtalfdjihejohoaaD1d
set_option maxRecDepth 100000
set_option linter.unusedVariables false
set_option linter.unusedSimpArgs false
namespace Go.Am
open Go Go.Proofs

def badAcc (a : Acc) : Bool := !(decide (0 ≤ a.1) && decide (a.1 ≤ 2))
def badL (l : List Acc) : Bool := decide ((4 : Int) < l.length) || l.any badAcc
def valid (x : List (List Acc)) : Bool := (decide ((1 : Int) ≤ x.length) && decide ((x.length : Int) ≤ 3)) && !x.any badL
/-- Sizes that a machine can hold. -/
def Big (x : List (List Acc)) : Prop := x.length ≤ 9223372036854775807 ∧ ∀ l ∈ x, l.length ≤ 9223372036854775807

theorem badAcc_ok (a : Acc) : ACall P 71 [.d (dAcc a)] [] (AB (badAcc a)) [] := by
  obtain ⟨v, w⟩ := a
  unfold dAcc badAcc
  dsimp only
  obtain ⟨r, hr⟩ : ∃ r, (decide (0 ≤ v) && decide (v ≤ 2)) = r := ⟨_, rfl⟩
  rw [hr]
  refine ACall.enter hT (fn := Try.f71) Try.func71 rfl (by decide) (by simp [Try.f71]) rfl rfl rfl rfl (Nat.le_refl _) ?_
  repeat refine AWp.seq ?_
  refine AWp.reg1 {} hT (fun A hA => by cbv) (Nat.zero_le _) ?_
  try dsimp only [AExit.then, AExit.block]
  repeat refine AWp.seq ?_
  refine AWp.region ?_
  refine AOps.stepCall hT (an := {}) (fun A hA => by cbv) (Nat.zero_le _) rfl (.inr rfl) rfl rfl rfl (Nat.le_of_ble_eq_true rfl) rfl rfl (between_ok' _ _ _ r hr) ?_
  refine AOps.done hT (an := {}) (fun A hA => by cbv) (Nat.zero_le _) ?_
  try dsimp only [AExit.then, AExit.block]
  repeat refine AWp.seq ?_
  refine AWp.ret ⟨?_, rfl, rfl, Nat.zero_le _, _, rfl⟩
  rfl

theorem badL_ok (l : List Acc) (hl : l.length ≤ 9223372036854775807) : ACall P 69 [.d (dAccs l)] [] (AB (badL l)) [] := by
  have hc := contains25 l hl 71 [] [] badAcc rfl rfl rfl (fun a _ => badAcc_ok a)
  unfold dAccs badL
  obtain ⟨L, hL⟩ : ∃ L, l.map dAcc = L := ⟨_, rfl⟩
  obtain ⟨n, hn⟩ : ∃ n : Int, (L.length : Int) = n := ⟨_, rfl⟩
  have hln : (l.length : Int) = n := by rw [← hn, ← hL]; simp
  obtain ⟨r, hr⟩ : ∃ r, l.any badAcc = r := ⟨_, rfl⟩
  rw [hL, hr] at hc
  rw [hL, hr, hln]
  refine ACall.enter hT (fn := Try.f69) Try.func69 rfl (by decide) (by simp [Try.f69]) rfl rfl rfl rfl (Nat.le_refl _) ?_
  repeat refine AWp.seq ?_
  refine AWp.reg1 {} hT (fun A hA => by cbv) (Nat.zero_le _) ?_
  try dsimp only [AExit.then, AExit.block]
  by_cases h : 4 < n
  · repeat refine AWp.seq ?_
    refine AWp.reg1 {} hT (fun A hA => by
        have f0 := ar_len hA L n hn
        have f1 := ar_lt hA h
        repeat (cbv; simp only [f0, f1])
        cbv) (Nat.zero_le _) ?_
    try dsimp only [AExit.then, AExit.block]
    repeat refine AWp.seq ?_
    refine AWp.ret ⟨?_, rfl, rfl, Nat.zero_le _, _, rfl⟩
    simp [h]; rfl
  · repeat refine AWp.seq ?_
    refine AWp.region ?_
    refine AOps.stepCall hT (an := {}) (fun A hA => by
        have f0 := ar_len hA L n hn
        have f1 := ar_nlt hA h
        repeat (cbv; simp only [f0, f1])
        cbv) (Nat.zero_le _) rfl (.inr rfl) rfl rfl rfl (Nat.le_of_ble_eq_true rfl) rfl rfl (hc) ?_
    refine AOps.done hT (an := {}) (fun A hA => by cbv) (Nat.zero_le _) ?_
    try dsimp only [AExit.then, AExit.block]
    repeat refine AWp.seq ?_
    refine AWp.ret ⟨?_, rfl, rfl, Nat.zero_le _, _, rfl⟩
    simp [h]; rfl

theorem valid_ok (x : List (List Acc)) (hx : Big x) : ACall P 20 [.d (dX x)] [] (AB (valid x)) [] := by
  have hc := contains22 x hx.1 69 [] [] badL rfl rfl rfl (fun a ha => badL_ok a (hx.2 a ha))
  unfold dX valid
  obtain ⟨X, hX⟩ : ∃ X, x.map dAccs = X := ⟨_, rfl⟩
  obtain ⟨n, hn⟩ : ∃ n : Int, (X.length : Int) = n := ⟨_, rfl⟩
  have hxl : (x.length : Int) = n := by rw [← hn, ← hX]; simp
  obtain ⟨r, hr⟩ : ∃ r, x.any badL = r := ⟨_, rfl⟩
  rw [hX, hr] at hc
  rw [hX, hr, hxl]
  refine ACall.enter hT (fn := Try.f20) Try.func20 rfl (by decide) (by simp [Try.f20]) rfl rfl rfl rfl (Nat.le_refl _) ?_
  repeat refine AWp.seq ?_
  refine AWp.reg1 {} hT (fun A hA => by cbv) (Nat.zero_le _) ?_
  try dsimp only [AExit.then, AExit.block]
  by_cases h : 1 ≤ n ∧ n ≤ 3
  · repeat refine AWp.seq ?_
    refine AWp.region ?_
    refine AOps.stepCall hT (an := {}) (fun A hA => by
        have f0 := ar_len hA X n hn
        repeat (cbv; simp only [f0])
        cbv) (Nat.zero_le _) rfl (.inr rfl) rfl rfl rfl (Nat.le_of_ble_eq_true rfl) rfl rfl (between_ok' _ _ _ true (by simp; exact h)) ?_
    refine AOps.stepCall hT (an := {}) (fun A hA => by cbv) (Nat.zero_le _) rfl (.inr rfl) rfl rfl rfl (Nat.le_of_ble_eq_true rfl) rfl rfl (hc) ?_
    refine AOps.done hT (an := {}) (fun A hA => by cbv) (Nat.zero_le _) ?_
    try dsimp only [AExit.then, AExit.block]
    repeat refine AWp.seq ?_
    refine AWp.ret ⟨?_, rfl, rfl, Nat.zero_le _, _, rfl⟩
    simp [h.1, h.2]; rfl
  · repeat refine AWp.seq ?_
    refine AWp.region ?_
    refine AOps.stepCall hT (an := {}) (fun A hA => by
        have f0 := ar_len hA X n hn
        repeat (cbv; simp only [f0])
        cbv) (Nat.zero_le _) rfl (.inr rfl) rfl rfl rfl (Nat.le_of_ble_eq_true rfl) rfl rfl (between_ok' _ _ _ false (by simp; omega)) ?_
    refine AOps.done hT (an := {}) (fun A hA => by cbv) (Nat.zero_le _) ?_
    try dsimp only [AExit.then, AExit.block]
    repeat refine AWp.seq ?_
    refine AWp.ret ⟨?_, rfl, rfl, Nat.zero_le _, _, rfl⟩
    have : (decide (1 ≤ n) && decide (n ≤ 3)) = false := by simp; omega
    rw [this]; rfl

/-- Too many accesses for a statement. -/
def long (x : List (List Acc)) : Bool := x.any (fun l => decide ((20 : Int) < l.length)) || decide ((20 : Int) < x.length)
theorem long_ok (x : List (List Acc)) (hx : Big x) : ACall P 13 [.d (dX x)] [] (AB (long x)) [] := by
  unfold dX
  obtain ⟨X, hX⟩ : ∃ X, x.map dAccs = X := ⟨_, rfl⟩
  obtain ⟨n, hn⟩ : ∃ n : Int, (X.length : Int) = n := ⟨_, rfl⟩
  have hxl : (x.length : Int) = n := by rw [← hn, ← hX]; simp
  have hs := hx.1
  rw [hX]
  refine ACall.enter hT (fn := Try.f13) Try.func13 rfl (by decide) (by simp [Try.f13]) rfl rfl rfl rfl (Nat.le_refl _) ?_
  repeat refine AWp.seq ?_
  refine AWp.reg1 {} hT (fun A hA => by cbv) (Nat.zero_le _) ?_
  try dsimp only [AExit.then, AExit.block]
  repeat refine AWp.seq ?_
  refine AWp.reg1 {} hT (fun A hA => by
      have f0 := ar_len hA X n hn
      repeat (cbv; simp only [f0])
      cbv) (Nat.zero_le _) ?_
  try dsimp only [AExit.then, AExit.block]
  refine AWp.block (AWp.loopInv (ι := Int) (fun z => 0 ≤ z ∧ z ≤ n ∧ ∀ l ∈ x.take z.toNat, ¬ (20 : Int) < l.length) (fun z => (n - z).toNat) [0, 5, 6, 7]
    (fun z => { env := [(0, .d (.list 1 X)), (5, .d (.list 1 X)), (6, AI n), (7, AI z)], heap := [], n := 18 }) 0 (by cbv) ⟨Int.le_refl _, by omega, by simp⟩ ?_)
  rintro z ⟨h0, h1, h2⟩
  by_cases hz : z < n
  · obtain ⟨L, hL⟩ : ∃ L, x[z.toNat]? = some L := ⟨_, List.getElem?_eq_getElem (by omega)⟩
    obtain ⟨L', hL'⟩ : ∃ L', L.map dAcc = L' := ⟨_, rfl⟩
    obtain ⟨k, hk⟩ : ∃ n : Int, (L'.length : Int) = n := ⟨_, rfl⟩
    have hkL : (L.length : Int) = k := by rw [← hk, ← hL']; simp
    have hXt : X[z.toNat]? = some (.list 2 L') := by rw [← hX, List.getElem?_map, hL, ← hL']; rfl
    obtain ⟨z1, hz1⟩ : ∃ z1, z + 1 = z1 := ⟨_, rfl⟩
    repeat refine AWp.seq ?_
    refine AWp.reg1 {} hT (fun A hA => by
        have f0 := ar_lt hA hz
        repeat (cbv; simp only [f0])
        cbv) (Nat.zero_le _) ?_
    try dsimp only [AExit.then, AExit.block]
    repeat refine AWp.seq ?_
    refine AWp.cond (b := true) rfl (AWp.skip ?_)
    try dsimp only [AExit.then, AExit.block]
    repeat refine AWp.seq ?_
    refine AWp.block ?_
    repeat refine AWp.seq ?_
    refine AWp.reg1 {} hT (fun A hA => by
        have f0 := ar_get hA hXt
        have f1 := ar_le hA h0
        repeat (cbv; simp only [f0, f1])
        cbv) (Nat.zero_le _) ?_
    try dsimp only [AExit.then, AExit.block]
    by_cases h : 20 < k
    · repeat refine AWp.seq ?_
      refine AWp.reg1 {} hT (fun A hA => by
          have f0 := ar_len hA L' k hk
          have f1 := ar_lt hA h
          repeat (cbv; simp only [f0, f1])
          cbv) (Nat.zero_le _) ?_
      try dsimp only [AExit.then, AExit.block]
      repeat refine AWp.seq ?_
      refine AWp.cond (b := true) rfl ?_
      rw [if_pos rfl]
      repeat refine AWp.seq ?_
      refine AWp.reg1 {} hT (fun A hA => by cbv) (Nat.zero_le _) ?_
      try dsimp only [AExit.then, AExit.block]
      repeat refine AWp.seq ?_
      refine AWp.ret ⟨?_, rfl, rfl, Nat.zero_le _, _, rfl⟩
      have : long x = true := by
        unfold long
        rw [List.any_eq_true.2 ⟨L, List.mem_of_getElem? hL, by simpa [hkL] using h⟩]; rfl
      rw [this]; rfl
    · repeat refine AWp.seq ?_
      refine AWp.reg1 {} hT (fun A hA => by
          have f0 := ar_len hA L' k hk
          have f1 := ar_nlt hA h
          repeat (cbv; simp only [f0, f1])
          cbv) (Nat.zero_le _) ?_
      try dsimp only [AExit.then, AExit.block]
      repeat refine AWp.seq ?_
      refine AWp.cond (b := false) rfl (AWp.skip ?_)
      try dsimp only [AExit.then, AExit.block]
      repeat refine AWp.seq ?_
      refine AWp.reg1 {} hT (fun A hA => by
          have f0 := ar_add hA z 1 z1 hz1 (by omega) (by omega)
          repeat (cbv; simp only [f0])
          cbv) (Nat.zero_le _) ?_
      try dsimp only [AExit.then, AExit.block]
      refine ⟨z1, ⟨by omega, by omega, ?_⟩, by omega, by cbv⟩
      intro l hl
      rw [show z1.toNat = z.toNat + 1 by omega, List.take_add_one, hL] at hl
      simp at hl
      rcases hl with hl | rfl
      · exact h2 l hl
      · omega
  · repeat refine AWp.seq ?_
    refine AWp.reg1 {} hT (fun A hA => by
        have f0 := ar_nlt hA hz
        repeat (cbv; simp only [f0])
        cbv) (Nat.zero_le _) ?_
    try dsimp only [AExit.then, AExit.block]
    repeat refine AWp.seq ?_
    refine AWp.cond (b := false) rfl (AWp.exit ?_)
    try dsimp only [AExit.then, AExit.block]
    rw [if_pos rfl]
    rw [List.take_of_length_le (by omega)] at h2
    have hany : x.any (fun l => decide ((20 : Int) < l.length)) = false := List.any_eq_false.2 (fun y hy => by simpa using h2 y hy)
    by_cases h : 20 < n
    · repeat refine AWp.seq ?_
      refine AWp.reg1 {} hT (fun A hA => by
          have f0 := ar_len hA X n hn
          have f1 := ar_lt hA h
          repeat (cbv; simp only [f0, f1])
          cbv) (Nat.zero_le _) ?_
      try dsimp only [AExit.then, AExit.block]
      repeat refine AWp.seq ?_
      refine AWp.ret ⟨?_, rfl, rfl, Nat.zero_le _, _, rfl⟩
      simp [long, hany, hxl, h]; rfl
    · repeat refine AWp.seq ?_
      refine AWp.reg1 {} hT (fun A hA => by
          have f0 := ar_len hA X n hn
          have f1 := ar_nlt hA h
          repeat (cbv; simp only [f0, f1])
          cbv) (Nat.zero_le _) ?_
      try dsimp only [AExit.then, AExit.block]
      repeat refine AWp.seq ?_
      refine AWp.ret ⟨?_, rfl, rfl, Nat.zero_le _, _, rfl⟩
      simp [long, hany, hxl, h]; rfl
end Go.Am
