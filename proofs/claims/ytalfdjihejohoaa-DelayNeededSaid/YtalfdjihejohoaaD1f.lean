/- Own text: D1f. -/
import Derived.Test.YtalfdjihejohoaaD1e
set_option maxRecDepth 100000
set_option linter.unusedVariables false
set_option linter.unusedSimpArgs false
namespace Go.Am
open Go Go.Proofs

theorem any_take_false {α : Type} {p : α → Bool} {l : List α} (h : ∀ y ∈ l, p y = false) : l.any p = false := List.any_eq_false.2 (fun y hy => by rw [h y hy]; exact Bool.false_ne_true)
theorem any_mem_true {α : Type} {p : α → Bool} {l : List α} {y : α} (h : y ∈ l) (hp : p y = true) : l.any p = true := List.any_eq_true.2 ⟨y, h, hp⟩

theorem validR_ok (x : List (List Acc)) (hx : Big x) : ACall P 14 [.d (dX x)] [] (AB (valid x)) [] := by
  unfold dX
  obtain ⟨X, hX⟩ : ∃ X, x.map dAccs = X := ⟨_, rfl⟩
  obtain ⟨n, hn⟩ : ∃ n : Int, (X.length : Int) = n := ⟨_, rfl⟩
  have hxl : (x.length : Int) = n := by rw [← hn, ← hX]; simp
  have hs := hx.1
  rw [hX]
  refine ACall.enter hT (fn := Try.f14) Try.func14 rfl (by decide) (by simp [Try.f14]) rfl rfl rfl rfl (Nat.le_refl _) ?_
  repeat refine AWp.seq ?_
  refine AWp.reg1 {} hT (fun A hA => by cbv) (Nat.zero_le _) ?_
  try dsimp only [AExit.then, AExit.block]
  repeat refine AWp.seq ?_
  refine AWp.reg1 {} hT (fun A hA => by
      have f0 := ar_len hA X n hn
      repeat (cbv; simp only [f0])
      cbv) (Nat.zero_le _) ?_
  try dsimp only [AExit.then, AExit.block]
  refine AWp.block (AWp.loopInv (ι := Int) (fun z => 0 ≤ z ∧ z ≤ n ∧ ∀ l ∈ x.take z.toNat, badL l = false) (fun z => (n - z).toNat) [0, 7, 8, 9]
    (fun z => { env := [(0, .d (.list 1 X)), (7, .d (.list 1 X)), (8, AI n), (9, AI z)], heap := [], n := 40 }) 0 (by cbv) ⟨Int.le_refl _, by omega, by simp⟩ ?_)
  rintro z ⟨h0, h1, h2⟩
  by_cases hz : z < n
  · obtain ⟨L, hL⟩ : ∃ L, x[z.toNat]? = some L := ⟨_, List.getElem?_eq_getElem (by omega)⟩
    obtain ⟨L', hL'⟩ : ∃ L', L.map dAcc = L' := ⟨_, rfl⟩
    obtain ⟨k, hk⟩ : ∃ n : Int, (L'.length : Int) = n := ⟨_, rfl⟩
    have hkL : (L.length : Int) = k := by rw [← hk, ← hL']; simp
    have hs2 := hx.2 L (List.mem_of_getElem? hL)
    have hXt : X[z.toNat]? = some (.list 2 L') := by rw [← hX, List.getElem?_map, hL, ← hL']; rfl
    obtain ⟨z1, hz1⟩ : ∃ z1, z + 1 = z1 := ⟨_, rfl⟩
    have hbad : badL L = true → valid x = false := fun h => by
      unfold valid; rw [any_mem_true (List.mem_of_getElem? hL) h]; simp
    repeat refine AWp.seq ?_
    refine AWp.reg1 {} hT (fun A hA => by
        have f0 := ar_lt hA hz
        repeat (cbv; simp only [f0])
        cbv) (Nat.zero_le _) ?_
    try dsimp only [AExit.then, AExit.block]
    repeat refine AWp.seq ?_
    refine AWp.cond (b := true) rfl (AWp.skip ?_)
    try dsimp only [AExit.then, AExit.block]
    repeat refine AWp.seq ?_
    refine AWp.block ?_
    repeat refine AWp.seq ?_
    refine AWp.reg1 {} hT (fun A hA => by
        have f0 := ar_get hA hXt
        have f1 := ar_le hA h0
        repeat (cbv; simp only [f0, f1])
        cbv) (Nat.zero_le _) ?_
    try dsimp only [AExit.then, AExit.block]
    by_cases h : 4 < k
    · repeat refine AWp.seq ?_
      refine AWp.reg1 {} hT (fun A hA => by
          have f0 := ar_len hA L' k hk
          have f1 := ar_lt hA h
          repeat (cbv; simp only [f0, f1])
          cbv) (Nat.zero_le _) ?_
      try dsimp only [AExit.then, AExit.block]
      repeat refine AWp.seq ?_
      refine AWp.cond (b := true) rfl ?_
      rw [if_pos rfl]
      repeat refine AWp.seq ?_
      refine AWp.reg1 {} hT (fun A hA => by cbv) (Nat.zero_le _) ?_
      try dsimp only [AExit.then, AExit.block]
      repeat refine AWp.seq ?_
      refine AWp.ret ⟨?_, rfl, rfl, Nat.zero_le _, _, rfl⟩
      rw [hbad (by unfold badL; simp [hkL, h])]; rfl
    · repeat refine AWp.seq ?_
      refine AWp.reg1 {} hT (fun A hA => by
          have f0 := ar_len hA L' k hk
          have f1 := ar_nlt hA h
          repeat (cbv; simp only [f0, f1])
          cbv) (Nat.zero_le _) ?_
      try dsimp only [AExit.then, AExit.block]
      repeat refine AWp.seq ?_
      refine AWp.cond (b := false) rfl (AWp.skip ?_)
      try dsimp only [AExit.then, AExit.block]
      repeat refine AWp.seq ?_
      refine AWp.reg1 {} hT (fun A hA => by
          have f0 := ar_len hA L' k hk
          repeat (cbv; simp only [f0])
          cbv) (Nat.zero_le _) ?_
      try dsimp only [AExit.then, AExit.block]
      refine AWp.block (AWp.loopInv (ι := Int) (fun y => 0 ≤ y ∧ y ≤ k ∧ ∀ l ∈ L.take y.toNat, badAcc l = false) (fun y => (k - y).toNat) [0, 7, 8, 9, 16, 17, 18]
        (fun y => { env := [(0, .d (.list 1 X)), (7, .d (.list 1 X)), (8, AI n), (9, AI z), (16, .d (.list 2 L')), (17, AI k), (18, AI y)], heap := [], n := 40 }) 0 (by cbv) ⟨Int.le_refl _, by omega, by simp⟩ ?_)
      rintro y ⟨g0, g1, g2⟩
      by_cases hy : y < k
      · obtain ⟨⟨v, b⟩, hc⟩ : ∃ c, L[y.toNat]? = some c := ⟨_, List.getElem?_eq_getElem (by omega)⟩
        have hLt : L'[y.toNat]? = some (.agg [I v, .bool b]) := by rw [← hL', List.getElem?_map, hc]; rfl
        obtain ⟨y1, hy1⟩ : ∃ z1, y + 1 = z1 := ⟨_, rfl⟩
        have hbadA : badAcc (v, b) = true → valid x = false := fun h => hbad (by unfold badL; rw [any_mem_true (List.mem_of_getElem? hc) h]; simp)
        repeat refine AWp.seq ?_
        refine AWp.reg1 {} hT (fun A hA => by
            have f0 := ar_lt hA hy
            repeat (cbv; simp only [f0])
            cbv) (Nat.zero_le _) ?_
        try dsimp only [AExit.then, AExit.block]
        repeat refine AWp.seq ?_
        refine AWp.cond (b := true) rfl (AWp.skip ?_)
        try dsimp only [AExit.then, AExit.block]
        repeat refine AWp.seq ?_
        refine AWp.block ?_
        repeat refine AWp.seq ?_
        refine AWp.reg1 {} hT (fun A hA => by
            have f0 := ar_get hA hLt
            have f1 := ar_le hA g0
            repeat (cbv; simp only [f0, f1])
            cbv) (Nat.zero_le _) ?_
        try dsimp only [AExit.then, AExit.block]
        by_cases e1 : v < 0
        · repeat refine AWp.seq ?_
          refine AWp.reg1 {} hT (fun A hA => by
              have f0 := ar_lt hA e1
              repeat (cbv; simp only [f0])
              cbv) (Nat.zero_le _) ?_
          try dsimp only [AExit.then, AExit.block]
          repeat refine AWp.seq ?_
          refine AWp.cond (b := true) rfl ?_
          rw [if_pos rfl]
          repeat refine AWp.seq ?_
          refine AWp.reg1 {} hT (fun A hA => by cbv) (Nat.zero_le _) ?_
          try dsimp only [AExit.then, AExit.block]
          repeat refine AWp.seq ?_
          refine AWp.ret ⟨?_, rfl, rfl, Nat.zero_le _, _, rfl⟩
          rw [hbadA (by unfold badAcc; simp; omega)]; rfl
        · by_cases e2 : 3 ≤ v
          · repeat refine AWp.seq ?_
            refine AWp.reg1 {} hT (fun A hA => by
                have f0 := ar_nlt hA e1
                have f1 := ar_le hA e2
                repeat (cbv; simp only [f0, f1])
                cbv) (Nat.zero_le _) ?_
            try dsimp only [AExit.then, AExit.block]
            repeat refine AWp.seq ?_
            refine AWp.cond (b := true) rfl ?_
            rw [if_pos rfl]
            repeat refine AWp.seq ?_
            refine AWp.reg1 {} hT (fun A hA => by cbv) (Nat.zero_le _) ?_
            try dsimp only [AExit.then, AExit.block]
            repeat refine AWp.seq ?_
            refine AWp.ret ⟨?_, rfl, rfl, Nat.zero_le _, _, rfl⟩
            rw [hbadA (by unfold badAcc; simp; omega)]; rfl
          · repeat refine AWp.seq ?_
            refine AWp.reg1 {} hT (fun A hA => by
                have f0 := ar_nlt hA e1
                have f1 := ar_nle hA e2
                repeat (cbv; simp only [f0, f1])
                cbv) (Nat.zero_le _) ?_
            try dsimp only [AExit.then, AExit.block]
            repeat refine AWp.seq ?_
            refine AWp.cond (b := false) rfl (AWp.skip ?_)
            try dsimp only [AExit.then, AExit.block]
            repeat refine AWp.seq ?_
            refine AWp.reg1 {} hT (fun A hA => by
                have f0 := ar_add hA y 1 y1 hy1 (by omega) (by omega)
                repeat (cbv; simp only [f0])
                cbv) (Nat.zero_le _) ?_
            try dsimp only [AExit.then, AExit.block]
            refine ⟨y1, ⟨by omega, by omega, ?_⟩, by omega, by cbv⟩
            intro l hl
            rw [show y1.toNat = y.toNat + 1 by omega, List.take_add_one, hc] at hl
            simp only [Option.toList_some, List.mem_append, List.mem_singleton] at hl
            rcases hl with hl | rfl
            · exact g2 l hl
            · unfold badAcc; simp; omega
      · repeat refine AWp.seq ?_
        refine AWp.reg1 {} hT (fun A hA => by
            have f0 := ar_nlt hA hy
            repeat (cbv; simp only [f0])
            cbv) (Nat.zero_le _) ?_
        try dsimp only [AExit.then, AExit.block]
        repeat refine AWp.seq ?_
        refine AWp.cond (b := false) rfl (AWp.exit ?_)
        try dsimp only [AExit.then, AExit.block]
        rw [if_pos rfl]
        repeat refine AWp.seq ?_
        refine AWp.reg1 {} hT (fun A hA => by
            have f0 := ar_add hA z 1 z1 hz1 (by omega) (by omega)
            repeat (cbv; simp only [f0])
            cbv) (Nat.zero_le _) ?_
        try dsimp only [AExit.then, AExit.block]
        refine ⟨z1, ⟨by omega, by omega, ?_⟩, by omega, by cbv⟩
        intro l hl
        rw [show z1.toNat = z.toNat + 1 by omega, List.take_add_one, hL] at hl
        simp only [Option.toList_some, List.mem_append, List.mem_singleton] at hl
        rcases hl with hl | rfl
        · exact h2 l hl
        · rw [List.take_of_length_le (by omega)] at g2
          unfold badL; rw [any_take_false g2]; simp; omega
  · repeat refine AWp.seq ?_
    refine AWp.reg1 {} hT (fun A hA => by
        have f0 := ar_nlt hA hz
        repeat (cbv; simp only [f0])
        cbv) (Nat.zero_le _) ?_
    try dsimp only [AExit.then, AExit.block]
    repeat refine AWp.seq ?_
    refine AWp.cond (b := false) rfl (AWp.exit ?_)
    try dsimp only [AExit.then, AExit.block]
    rw [if_pos rfl]
    rw [List.take_of_length_le (by omega)] at h2
    have hany := any_take_false h2
    by_cases e1 : 1 ≤ n
    · by_cases e2 : n ≤ 3
      · repeat refine AWp.seq ?_
        refine AWp.reg1 {} hT (fun A hA => by
            have f0 := ar_len hA X n hn
            have f1 := ar_le hA e1
            have f2 := ar_le hA e2
            repeat (cbv; simp only [f0, f1, f2])
            cbv) (Nat.zero_le _) ?_
        try dsimp only [AExit.then, AExit.block]
        repeat refine AWp.seq ?_
        refine AWp.ret ⟨?_, rfl, rfl, Nat.zero_le _, _, rfl⟩
        simp [valid, hany, hxl, e1, e2]; rfl
      · repeat refine AWp.seq ?_
        refine AWp.reg1 {} hT (fun A hA => by
            have f0 := ar_len hA X n hn
            have f1 := ar_le hA e1
            have f2 := ar_nle hA e2
            repeat (cbv; simp only [f0, f1, f2])
            cbv) (Nat.zero_le _) ?_
        try dsimp only [AExit.then, AExit.block]
        repeat refine AWp.seq ?_
        refine AWp.ret ⟨?_, rfl, rfl, Nat.zero_le _, _, rfl⟩
        simp [valid, hany, hxl, e1, e2]; rfl
    · repeat refine AWp.seq ?_
      refine AWp.reg1 {} hT (fun A hA => by
          have f0 := ar_len hA X n hn
          have f1 := ar_nle hA e1
          repeat (cbv; simp only [f0, f1])
          cbv) (Nat.zero_le _) ?_
      try dsimp only [AExit.then, AExit.block]
      repeat refine AWp.seq ?_
      refine AWp.ret ⟨?_, rfl, rfl, Nat.zero_le _, _, rfl⟩
      simp [valid, hany, hxl, e1]; rfl

/-! ### How many conflict -/
theorem foldl_flat {α β : Type} (g : α → List β) : ∀ (l : List α) (acc : List β), l.foldl (fun acc t => acc ++ g t) acc = acc ++ l.flatMap g
  | [], acc => by simp
  | t :: r, acc => by simp [foldl_flat g r]
theorem spots_eq (x : List (List Acc)) : spots x = (List.range x.length).flatMap fun (t : Nat) => (List.range (x.getD t []).length).map fun (a : Nat) => ((t : Int), (a : Int)) := by
  unfold spots
  have : ∀ (t : Nat) (acc : List (Int × Int)), (List.range (x.getD t []).length).foldl (fun acc (a : Nat) => acc ++ [((t : Int), (a : Int))]) acc = acc ++ (List.range (x.getD t []).length).map fun (a : Nat) => ((t : Int), (a : Int)) := by
    intro t acc
    rw [foldl_flat]
    congr 1
    generalize List.range (x.getD t []).length = l
    induction l with
    | nil => rfl
    | cons a r ih => simp [ih]
  simp only [this]
  rw [foldl_flat]; rfl
theorem mem_spots {x : List (List Acc)} {s : Int × Int} (h : s ∈ spots x) : there x s.1 s.2 = true := by
  rw [spots_eq] at h
  simp only [List.mem_flatMap, List.mem_range, List.mem_map] at h
  obtain ⟨t, ht, a, ha, rfl⟩ := h
  simp [there, ht]
  rw [List.getD_eq_getElem?_getD, List.getElem?_eq_getElem ht] at ha
  exact ha
theorem spots_length {x : List (List Acc)} (hx : Small x) : (spots x).length ≤ 1000000 := by
  rw [spots_eq, List.length_flatMap]
  have : ∀ (l : List Nat), (∀ t ∈ l, t < x.length) → (l.map fun (t : Nat) => ((List.range (x.getD t []).length).map fun (a : Nat) => ((t : Int), (a : Int))).length).sum ≤ l.length * 1000 := by
    intro l
    induction l with
    | nil => simp
    | cons t r ih =>
      intro h
      have h1 := ih (fun t ht => h t (by simp [ht]))
      have h2 := h t (by simp)
      have h3 := hx.2 _ (List.getElem_mem h2)
      simp only [List.map_cons, List.sum_cons, List.length_map, List.length_range, List.length_cons] at *
      rw [List.getD_eq_getElem?_getD, List.getElem?_eq_getElem h2]
      simp only [Option.getD_some]
      omega
  have h1 := this (List.range x.length) (by simp)
  have := hx.1
  simp only [List.length_range] at h1
  omega

def conf (x : List (List Acc)) (s u : Int × Int) : Bool := conflict x s.1 s.2 u.1 u.2
/-- How many accesses before the i-th conflict with it. -/
def confAt (x : List (List Acc)) (i : Nat) : Nat := ((spots x).take i).countP (conf x ((spots x).getD i (0, 0)))
def nConf (x : List (List Acc)) : Nat := (List.range (spots x).length).foldl (fun n i => n + confAt x i) 0

theorem conflicts_ok (x : List (List Acc)) (hx : Big x) (hsm : valid x = true → Small x) : ACall P 17 [.d (dX x)] [] (.tuple (if valid x then [AI (nConf x), AI 0] else [AI 0, AI 90])) [] := by
  have cv := valid_ok x hx
  cases hv : valid x with
  | false =>
    rw [hv] at cv
    obtain ⟨X, hX⟩ : ∃ X, dX x = X := ⟨_, rfl⟩
    rw [hX] at cv ⊢
    refine ACall.enter hT (fn := Try.f17) Try.func17 rfl (by decide) (by simp [Try.f17]) rfl rfl rfl rfl (Nat.le_refl _) ?_
    repeat refine AWp.seq ?_
    refine AWp.reg1 {} hT (fun A hA => by cbv) (Nat.zero_le _) ?_
    try dsimp only [AExit.then, AExit.block]
    repeat refine AWp.seq ?_
    refine AWp.region ?_
    refine AOps.stepCall hT (an := {}) (fun A hA => by cbv) (Nat.zero_le _) rfl (.inr rfl) rfl rfl rfl (Nat.le_of_ble_eq_true rfl) rfl rfl (cv) ?_
    refine AOps.done hT (an := {}) (fun A hA => by cbv) (Nat.zero_le _) ?_
    try dsimp only [AExit.then, AExit.block]
    repeat refine AWp.seq ?_
    refine AWp.cond (b := true) rfl ?_
    rw [if_pos rfl]
    repeat refine AWp.seq ?_
    refine AWp.reg1 {} hT (fun A hA => by cbv) (Nat.zero_le _) ?_
    try dsimp only [AExit.then, AExit.block]
    repeat refine AWp.seq ?_
    refine AWp.ret ⟨?_, rfl, rfl, Nat.zero_le _, _, rfl⟩
    rfl
  | true =>
    have hsm := hsm hv
    rw [hv] at cv
    have csp := spots_ok x hsm
    have hcf : ∀ s ∈ spots x, ∀ u ∈ spots x, ACall P 63 [.d (dX x), .d (.agg [I s.1, I s.2]), .d (.agg [I u.1, I u.2])] [] (AB (conf x s u)) [] := fun s hs u hu => conflict_ok x _ _ _ _ (mem_spots hs) (mem_spots hu)
    have hlen := spots_length hsm
    have hN : nConf x = (List.range (spots x).length).foldl (fun n i => n + confAt x i) 0 := rfl
    have hCA : ∀ i, confAt x i = ((spots x).take i).countP (conf x ((spots x).getD i (0, 0))) := fun i => rfl
    obtain ⟨X, hX⟩ : ∃ X, dX x = X := ⟨_, rfl⟩
    obtain ⟨l, hl⟩ : ∃ l, spots x = l := ⟨_, rfl⟩
    unfold dSpots at csp
    rw [hX] at cv csp ⊢
    rw [hl] at csp hcf hlen hN
    simp only [hl, hX] at hcf hCA
    obtain ⟨L, hL⟩ : ∃ L, l.map dSpot = L := ⟨_, rfl⟩
    obtain ⟨n, hn⟩ : ∃ n : Int, (L.length : Int) = n := ⟨_, rfl⟩
    have hln : (l.length : Int) = n := by rw [← hn, ← hL]; simp
    rw [hL] at csp
    let F : Nat → Nat := fun i => (List.range i).foldl (fun n i => n + confAt x i) 0
    have hF : ∀ i, F (i + 1) = F i + confAt x i := fun i => foldl_range_succ _ _ _
    refine ACall.enter hT (fn := Try.f17) Try.func17 rfl (by decide) (by simp [Try.f17]) rfl rfl rfl rfl (Nat.le_refl _) ?_
    repeat refine AWp.seq ?_
    refine AWp.reg1 {} hT (fun A hA => by cbv) (Nat.zero_le _) ?_
    try dsimp only [AExit.then, AExit.block]
    repeat refine AWp.seq ?_
    refine AWp.region ?_
    refine AOps.stepCall hT (an := {}) (fun A hA => by cbv) (Nat.zero_le _) rfl (.inr rfl) rfl rfl rfl (Nat.le_of_ble_eq_true rfl) rfl rfl (cv) ?_
    refine AOps.done hT (an := {}) (fun A hA => by cbv) (Nat.zero_le _) ?_
    try dsimp only [AExit.then, AExit.block]
    repeat refine AWp.seq ?_
    refine AWp.cond (b := false) rfl (AWp.skip ?_)
    try dsimp only [AExit.then, AExit.block]
    repeat refine AWp.seq ?_
    refine AWp.region ?_
    refine AOps.stepCall hT (an := {}) (fun A hA => by cbv) (Nat.zero_le _) rfl (.inr rfl) rfl rfl rfl (Nat.le_of_ble_eq_true rfl) rfl rfl (csp) ?_
    refine AOps.done hT (an := {}) (fun A hA => by cbv) (Nat.zero_le _) ?_
    try dsimp only [AExit.then, AExit.block]
    repeat refine AWp.seq ?_
    refine AWp.reg1 {} hT (fun A hA => by
        have f0 := ar_len hA L n hn
        repeat (cbv; simp only [f0])
        cbv) (Nat.zero_le _) ?_
    try dsimp only [AExit.then, AExit.block]
    refine AWp.block (AWp.loopInv (ι := Int × Int) (fun p => 0 ≤ p.1 ∧ p.1 ≤ n ∧ p.2 = F p.1.toNat ∧ p.2 ≤ p.1 * 1000000) (fun p => (n - p.1).toNat) [0, 4, 5, 15, 16, 17]
      (fun p => { env := [(0, .d X), (4, .d (.list 2 L)), (5, AI p.2), (15, .d (.list 2 L)), (16, AI n), (17, AI p.1)], heap := [], n := 39 }) (0, 0) (by cbv) ⟨Int.le_refl _, by omega, rfl, by simp⟩ ?_)
    rintro ⟨z, c⟩ ⟨h0, h1, hc, hcb⟩
    dsimp only at *
    by_cases hz : z < n
    · obtain ⟨⟨t, a⟩, hs⟩ : ∃ s, l[z.toNat]? = some s := ⟨_, List.getElem?_eq_getElem (by omega)⟩
      have hLz : L[z.toNat]? = some (.agg [I t, I a]) := by rw [← hL, List.getElem?_map, hs]; rfl
      obtain ⟨z1, hz1⟩ : ∃ z1, z + 1 = z1 := ⟨_, rfl⟩
      obtain ⟨L2, hL2⟩ : ∃ L2, L.take z.toNat = L2 := ⟨_, rfl⟩
      have hL2n : (L2.length : Int) = z := by rw [← hL2, List.length_take]; omega
      repeat refine AWp.seq ?_
      refine AWp.reg1 {} hT (fun A hA => by
          have f0 := ar_lt hA hz
          repeat (cbv; simp only [f0])
          cbv) (Nat.zero_le _) ?_
      try dsimp only [AExit.then, AExit.block]
      repeat refine AWp.seq ?_
      refine AWp.cond (b := true) rfl (AWp.skip ?_)
      try dsimp only [AExit.then, AExit.block]
      repeat refine AWp.seq ?_
      refine AWp.block ?_
      repeat refine AWp.seq ?_
      refine AWp.reg1 {} hT (fun A hA => by
          have f0 := ar_get hA hLz
          have f1 := ar_le hA h0
          repeat (cbv; simp only [f0, f1])
          cbv) (Nat.zero_le _) ?_
      try dsimp only [AExit.then, AExit.block]
      have hsub : ∀ A : Ar, A = Ar.std → A.sub L 0 z = L2 := fun A hA => by subst hA; rw [← hL2]; simp [Ar.std]
      repeat refine AWp.seq ?_
      refine AWp.reg1 {} hT (fun A hA => by
          have f0 := ar_len hA L n hn
          have f1 := ar_le hA (Int.le_refl 0)
          have f2 := ar_le hA h0
          have f3 := ar_le hA h1
          have f4 := hsub A hA
          have f5 := ar_len hA L2 z hL2n
          repeat (cbv; simp only [f0, f1, f2, f3, f4, f5])
          cbv) (Nat.zero_le _) ?_
      try dsimp only [AExit.then, AExit.block]
      refine AWp.block (AWp.loopInv (ι := Int × Int) (fun p => 0 ≤ p.1 ∧ p.1 ≤ z ∧ p.2 = (F z.toNat : Int) + ((l.take p.1.toNat).countP (conf x (t, a)) : Nat) ∧ p.2 ≤ z * 1000000 + p.1) (fun p => (z - p.1).toNat) [0, 4, 5, 7, 15, 16, 17, 24, 25, 26]
        (fun p => { env := [(0, .d X), (4, .d (.list 2 L)), (5, AI p.2), (7, .lbox [AI t, AI a]), (15, .d (.list 2 L)), (16, AI n), (17, AI z), (24, .d (.list 2 L2)), (25, AI z), (26, AI p.1)], heap := [], n := 39 }) (0, c) (by cbv) ⟨Int.le_refl _, by omega, by simpa using hc, by simpa using hcb⟩ ?_)
      rintro ⟨y, d⟩ ⟨g0, g1, hd, hdb⟩
      dsimp only at *
      by_cases hy : y < z
      · obtain ⟨⟨u, b⟩, hu⟩ : ∃ s, l[y.toNat]? = some s := ⟨_, List.getElem?_eq_getElem (by omega)⟩
        have hLy : L2[y.toNat]? = some (.agg [I u, I b]) := by rw [← hL2, List.getElem?_take_of_lt (by omega), ← hL, List.getElem?_map, hu]; rfl
        obtain ⟨y1, hy1⟩ : ∃ z1, y + 1 = z1 := ⟨_, rfl⟩
        obtain ⟨d1, hd1⟩ : ∃ z1, d + 1 = z1 := ⟨_, rfl⟩
        have cc := hcf _ (List.mem_of_getElem? hs) _ (List.mem_of_getElem? hu)
        have hcnt : (l.take y1.toNat).countP (conf x (t, a)) = (l.take y.toNat).countP (conf x (t, a)) + if conf x (t, a) (u, b) then 1 else 0 := by
          rw [show y1.toNat = y.toNat + 1 by omega, List.take_add_one, hu]; simp [List.countP_append, List.countP_singleton]
        obtain ⟨cv, hcv⟩ : ∃ cv, conf x (t, a) (u, b) = cv := ⟨_, rfl⟩
        rw [hcv] at cc hcnt
        repeat refine AWp.seq ?_
        refine AWp.reg1 {} hT (fun A hA => by
            have f0 := ar_lt hA hy
            repeat (cbv; simp only [f0])
            cbv) (Nat.zero_le _) ?_
        try dsimp only [AExit.then, AExit.block]
        repeat refine AWp.seq ?_
        refine AWp.cond (b := true) rfl (AWp.skip ?_)
        try dsimp only [AExit.then, AExit.block]
        repeat refine AWp.seq ?_
        refine AWp.block ?_
        repeat refine AWp.seq ?_
        refine AWp.reg1 {} hT (fun A hA => by
            have f0 := ar_get hA hLy
            have f1 := ar_le hA g0
            repeat (cbv; simp only [f0, f1])
            cbv) (Nat.zero_le _) ?_
        try dsimp only [AExit.then, AExit.block]
        repeat refine AWp.seq ?_
        refine AWp.region ?_
        refine AOps.stepCall hT (an := {}) (fun A hA => by cbv) (Nat.zero_le _) rfl (.inr rfl) rfl rfl rfl (Nat.le_of_ble_eq_true rfl) rfl rfl (cc) ?_
        refine AOps.done hT (an := {}) (fun A hA => by cbv) (Nat.zero_le _) ?_
        try dsimp only [AExit.then, AExit.block]
        cases cv with
        | true =>
          repeat refine AWp.seq ?_
          refine AWp.cond (b := true) rfl ?_
          rw [if_pos rfl]
          repeat refine AWp.seq ?_
          refine AWp.reg1 {} hT (fun A hA => by
              have f0 := ar_add hA d 1 d1 hd1 (by omega) (by omega)
              repeat (cbv; simp only [f0])
              cbv) (Nat.zero_le _) ?_
          try dsimp only [AExit.then, AExit.block]
          repeat refine AWp.seq ?_
          refine AWp.reg1 {} hT (fun A hA => by
              have f0 := ar_add hA y 1 y1 hy1 (by omega) (by omega)
              repeat (cbv; simp only [f0])
              cbv) (Nat.zero_le _) ?_
          try dsimp only [AExit.then, AExit.block]
          refine ⟨(y1, d1), ⟨by omega, by omega, ?_, by dsimp only; omega⟩, by dsimp only; omega, by cbv⟩
          dsimp only
          rw [hcnt]; simp; omega
        | false =>
          repeat refine AWp.seq ?_
          refine AWp.cond (b := false) rfl (AWp.skip ?_)
          try dsimp only [AExit.then, AExit.block]
          repeat refine AWp.seq ?_
          refine AWp.reg1 {} hT (fun A hA => by
              have f0 := ar_add hA y 1 y1 hy1 (by omega) (by omega)
              repeat (cbv; simp only [f0])
              cbv) (Nat.zero_le _) ?_
          try dsimp only [AExit.then, AExit.block]
          refine ⟨(y1, d), ⟨by omega, by omega, ?_, by dsimp only; omega⟩, by dsimp only; omega, by cbv⟩
          dsimp only
          rw [hcnt]; simp; omega
      · repeat refine AWp.seq ?_
        refine AWp.reg1 {} hT (fun A hA => by
            have f0 := ar_nlt hA hy
            repeat (cbv; simp only [f0])
            cbv) (Nat.zero_le _) ?_
        try dsimp only [AExit.then, AExit.block]
        repeat refine AWp.seq ?_
        refine AWp.cond (b := false) rfl (AWp.exit ?_)
        try dsimp only [AExit.then, AExit.block]
        rw [if_pos rfl]
        repeat refine AWp.seq ?_
        refine AWp.reg1 {} hT (fun A hA => by
            have f0 := ar_add hA z 1 z1 hz1 (by omega) (by omega)
            repeat (cbv; simp only [f0])
            cbv) (Nat.zero_le _) ?_
        try dsimp only [AExit.then, AExit.block]
        refine ⟨(z1, d), ⟨by omega, by omega, ?_, by dsimp only; omega⟩, by dsimp only; omega, by cbv⟩
        dsimp only
        rw [show z1.toNat = z.toNat + 1 by omega, hF, hCA, List.getD_eq_getElem?_getD, hs, hd, show y.toNat = z.toNat by omega]
        simp
    · repeat refine AWp.seq ?_
      refine AWp.reg1 {} hT (fun A hA => by
          have f0 := ar_nlt hA hz
          repeat (cbv; simp only [f0])
          cbv) (Nat.zero_le _) ?_
      try dsimp only [AExit.then, AExit.block]
      repeat refine AWp.seq ?_
      refine AWp.cond (b := false) rfl (AWp.exit ?_)
      try dsimp only [AExit.then, AExit.block]
      rw [if_pos rfl]
      repeat refine AWp.seq ?_
      refine AWp.reg1 {} hT (fun A hA => by cbv) (Nat.zero_le _) ?_
      try dsimp only [AExit.then, AExit.block]
      repeat refine AWp.seq ?_
      refine AWp.ret ⟨?_, rfl, rfl, Nat.zero_le _, _, rfl⟩
      have : (nConf x : Int) = c := by rw [hc, hN, show l.length = z.toNat by omega]
      rw [if_pos rfl, this]
      rfl
end Go.Am
