/- Own text: D1u. -/
import Derived.Test.YtalfdjihejohoaaD1s
import Derived.Test.YtalfdjihejohoaaD1k
set_option maxRecDepth 100000
set_option linter.unusedVariables false
set_option linter.unusedSimpArgs false
namespace Go.Am
open Go Go.Proofs

/-- The stations of the document. -/
def stRB (x : List (List Acc)) (t a n : Nat) : List Sta := ((List.range n).filter fun (b : Nat) => (decide (a = b) || isPair x ((t : Int), (a : Int), (b : Int)))).map fun (b : Nat) => ((t : Int), (a : Int), (b : Int))
def stRA (x : List (List Acc)) (t n m : Nat) : List Sta := (List.range m).flatMap fun a => stRB x t a n
def stRT (x : List (List Acc)) (n : Nat) : List Sta := (List.range n).flatMap fun t => stRA x t (x.getD t []).length (x.getD t []).length
def stationsR (x : List (List Acc)) : List Sta := stRT x x.length
theorem stRB_succ (x : List (List Acc)) (t a n : Nat) : stRB x t a (n + 1) = stRB x t a n ++ if (decide (a = n) || isPair x ((t : Int), (a : Int), (n : Int))) then [((t : Int), (a : Int), (n : Int))] else [] := by
  unfold stRB
  rw [List.range_succ, List.filter_append, List.map_append]
  congr 1
  simp only [List.filter_cons, List.filter_nil]
  split <;> rfl

theorem stationsR_ok (x : List (List Acc)) (hx : Small x) : ACall P 74 [.d (dX x)] [] (.own 3 ((stationsR x).map dSta)) [] := by
  have cp := fun t a b => isPairR_ok x t a b hx
  unfold dX at *
  obtain ⟨X, hX⟩ : ∃ X, x.map dAccs = X := ⟨_, rfl⟩
  obtain ⟨n, hn⟩ : ∃ n : Int, (X.length : Int) = n := ⟨_, rfl⟩
  have hxl : (x.length : Int) = n := by rw [← hn, ← hX]; simp
  have hs := hx.1
  rw [hX] at cp ⊢
  have hS : ∀ m, stRT x (m + 1) = stRT x m ++ stRA x m (x.getD m []).length (x.getD m []).length := fun m => flatMap_range_succ _ _
  have hSA : ∀ t n m, stRA x t n (m + 1) = stRA x t n m ++ stRB x t m n := fun t n m => flatMap_range_succ _ _
  refine ACall.enter hT (fn := Try.f74) Try.func74 rfl (by decide) (by simp [Try.f74]) rfl rfl rfl rfl (Nat.le_refl _) ?_
  repeat refine AWp.seq ?_
  refine AWp.reg1 {tk := [3]} hT (fun A hA => by cbv) (Nat.zero_le _) ?_
  try dsimp only [AExit.then, AExit.block]
  repeat refine AWp.seq ?_
  refine AWp.reg1 {tk := [3]} hT (fun A hA => by cbv) (Nat.zero_le _) ?_
  try dsimp only [AExit.then, AExit.block]
  repeat refine AWp.seq ?_
  refine AWp.reg1 {} hT (fun A hA => by
      have f0 := ar_len hA X n hn
      repeat (cbv; simp only [f0])
      cbv) (Nat.zero_le _) ?_
  try dsimp only [AExit.then, AExit.block]
  refine AWp.block (AWp.loopInv (ι := Int × List D) (fun p => 0 ≤ p.1 ∧ p.1 ≤ n ∧ p.2 = (stRT x p.1.toNat).map dSta ∧ p.2.length ≤ p.1 * 1000000) (fun p => (n - p.1).toNat) [0, 3, 9, 10, 11]
    (fun p => { env := [(0, .d (.list 1 X)), (3, .own 3 p.2), (9, .d (.list 1 X)), (10, AI n), (11, AI p.1)], heap := [], n := 46 }) (0, []) (by cbv) ⟨Int.le_refl _, by dsimp only; omega, rfl, by simp⟩ ?_)
  rintro ⟨z, l⟩ ⟨h0, h1, hl, hlen⟩
  dsimp only at *
  by_cases hz : z < n
  · obtain ⟨L, hL⟩ : ∃ L, x[z.toNat]? = some L := ⟨_, List.getElem?_eq_getElem (by omega)⟩
    obtain ⟨L', hL'⟩ : ∃ L', L.map dAcc = L' := ⟨_, rfl⟩
    obtain ⟨k, hk⟩ : ∃ n : Int, (L'.length : Int) = n := ⟨_, rfl⟩
    have hkL : (L.length : Int) = k := by rw [← hk, ← hL']; simp
    have hs2 := hx.2 L (List.mem_of_getElem? hL)
    have hXt : X[z.toNat]? = some (.list 2 L') := by rw [← hX, List.getElem?_map, hL, ← hL']; rfl
    obtain ⟨z1, hz1⟩ : ∃ z1, z + 1 = z1 := ⟨_, rfl⟩
    repeat refine AWp.seq ?_
    refine AWp.reg1 {} hT (fun A hA => by
        have f0 := ar_lt hA hz
        repeat (cbv; simp only [f0])
        cbv) (Nat.zero_le _) ?_
    try dsimp only [AExit.then, AExit.block]
    repeat refine AWp.seq ?_
    refine AWp.cond (b := true) rfl (AWp.skip ?_)
    try dsimp only [AExit.then, AExit.block]
    repeat refine AWp.seq ?_
    refine AWp.block ?_
    repeat refine AWp.seq ?_
    refine AWp.reg1 {} hT (fun A hA => by
        have f0 := ar_get hA hXt
        have f1 := ar_le hA h0
        repeat (cbv; simp only [f0, f1])
        cbv) (Nat.zero_le _) ?_
    try dsimp only [AExit.then, AExit.block]
    repeat refine AWp.seq ?_
    refine AWp.reg1 {} hT (fun A hA => by
        have f0 := ar_len hA L' k hk
        repeat (cbv; simp only [f0])
        cbv) (Nat.zero_le _) ?_
    try dsimp only [AExit.then, AExit.block]
    refine AWp.block (AWp.loopInv (ι := Int × List D) (fun p => 0 ≤ p.1 ∧ p.1 ≤ k ∧ p.2 = l ++ (stRA x z.toNat L.length p.1.toNat).map dSta ∧ p.2.length ≤ z * 1000000 + p.1 * 1000) (fun p => (k - p.1).toNat) [0, 3, 4, 5, 9, 10, 11, 17, 18]
      (fun p => { env := [(0, .d (.list 1 X)), (3, .own 3 p.2), (4, AI z), (5, .d (.list 2 L')), (9, .d (.list 1 X)), (10, AI n), (11, AI z), (17, AI k), (18, AI p.1)], heap := [], n := 46 }) (0, l) (by cbv) ⟨Int.le_refl _, by dsimp only; omega, by simp [stRA], by simpa using hlen⟩ ?_)
    rintro ⟨y, l1⟩ ⟨g0, g1, gl, glen⟩
    dsimp only at *
    by_cases hy : y < k
    · obtain ⟨y1, hy1⟩ : ∃ z1, y + 1 = z1 := ⟨_, rfl⟩
      repeat refine AWp.seq ?_
      refine AWp.reg1 {} hT (fun A hA => by
          have f0 := ar_lt hA hy
          repeat (cbv; simp only [f0])
          cbv) (Nat.zero_le _) ?_
      try dsimp only [AExit.then, AExit.block]
      repeat refine AWp.seq ?_
      refine AWp.cond (b := true) rfl (AWp.skip ?_)
      try dsimp only [AExit.then, AExit.block]
      repeat refine AWp.seq ?_
      refine AWp.block ?_
      repeat refine AWp.seq ?_
      refine AWp.reg1 {} hT (fun A hA => by cbv) (Nat.zero_le _) ?_
      try dsimp only [AExit.then, AExit.block]
      repeat refine AWp.seq ?_
      refine AWp.reg1 {} hT (fun A hA => by
          have f0 := ar_len hA L' k hk
          repeat (cbv; simp only [f0])
          cbv) (Nat.zero_le _) ?_
      try dsimp only [AExit.then, AExit.block]
      refine AWp.block (AWp.loopInv (ι := Int × List D) (fun p => 0 ≤ p.1 ∧ p.1 ≤ k ∧ p.2 = l1 ++ (stRB x z.toNat y.toNat p.1.toNat).map dSta ∧ p.2.length ≤ z * 1000000 + y * 1000 + p.1) (fun p => (k - p.1).toNat) [0, 3, 4, 5, 6, 9, 10, 11, 17, 18, 22, 23]
        (fun p => { env := [(0, .d (.list 1 X)), (3, .own 3 p.2), (4, AI z), (5, .d (.list 2 L')), (6, AI y), (9, .d (.list 1 X)), (10, AI n), (11, AI z), (17, AI k), (18, AI y), (22, AI k), (23, AI p.1)], heap := [], n := 46 }) (0, l1) (by cbv) ⟨Int.le_refl _, by dsimp only; omega, by simp [stRB], by dsimp only; omega⟩ ?_)
      rintro ⟨v, l2⟩ ⟨e0, e1, el, elen⟩
      dsimp only at *
      by_cases hv : v < k
      · obtain ⟨v1, hv1⟩ : ∃ z1, v + 1 = z1 := ⟨_, rfl⟩
        obtain ⟨l3, hl3⟩ : ∃ l3, l2 ++ [.agg [I z, I y, I v]] = l3 := ⟨_, rfl⟩
        have hstep := stRB_succ x z.toNat y.toNat v.toNat
        rw [show (z.toNat : Int) = z by omega, show (y.toNat : Int) = y by omega, show (v.toNat : Int) = v by omega, show v.toNat + 1 = v1.toNat by omega] at hstep
        have hcp := cp z y v
        obtain ⟨r, hr⟩ : ∃ r, isPair x (z, y, v) = r := ⟨_, rfl⟩
        rw [hr] at hcp hstep
        have grow : l3.length ≤ z * 1000000 + y * 1000 + v1 := by rw [← hl3]; simp; omega
        have hyes : stRB x z.toNat y.toNat v1.toNat = stRB x z.toNat y.toNat v.toNat ++ [(z, y, v)] → l3 = l1 ++ (stRB x z.toNat y.toNat v1.toNat).map dSta := fun h => by
          rw [h, List.map_append, ← List.append_assoc, ← el, ← hl3]; rfl
        repeat refine AWp.seq ?_
        refine AWp.reg1 {} hT (fun A hA => by
            have f0 := ar_lt hA hv
            repeat (cbv; simp only [f0])
            cbv) (Nat.zero_le _) ?_
        try dsimp only [AExit.then, AExit.block]
        repeat refine AWp.seq ?_
        refine AWp.cond (b := true) rfl (AWp.skip ?_)
        try dsimp only [AExit.then, AExit.block]
        repeat refine AWp.seq ?_
        refine AWp.block ?_
        repeat refine AWp.seq ?_
        refine AWp.reg1 {} hT (fun A hA => by cbv) (Nat.zero_le _) ?_
        try dsimp only [AExit.then, AExit.block]
        repeat refine AWp.seq ?_
        refine AWp.reg1 {} hT (fun A hA => by cbv) (Nat.zero_le _) ?_
        try dsimp only [AExit.then, AExit.block]
        by_cases e : y = v
        · rw [show decide (y.toNat = v.toNat) = true by simp; omega] at hstep
          repeat refine AWp.seq ?_
          refine AWp.reg1 {} hT (fun A hA => by
              have f0 := ar_eq hA e
              repeat (cbv; simp only [f0])
              cbv) (Nat.zero_le _) ?_
          try dsimp only [AExit.then, AExit.block]
          repeat refine AWp.seq ?_
          refine AWp.cond (b := true) rfl ?_
          rw [if_pos rfl]
          repeat refine AWp.seq ?_
          refine AWp.reg1 {tk := [3, 38, 41]} hT (fun A hA => by
              have f0 := ar_app hA _ _ _ hl3
              have f1 := ar_fits hA l2 [.agg [I z, I y, I v]] (by simp; omega)
              repeat (cbv; simp only [f0, f1])
              cbv) (Nat.zero_le _) ?_
          try dsimp only [AExit.then, AExit.block]
          repeat refine AWp.seq ?_
          refine AWp.reg1 {} hT (fun A hA => by
              have f0 := ar_add hA v 1 v1 hv1 (by omega) (by omega)
              repeat (cbv; simp only [f0])
              cbv) (Nat.zero_le _) ?_
          try dsimp only [AExit.then, AExit.block]
          refine ⟨(v1, l3), ⟨by dsimp only; omega, by dsimp only; omega, hyes (by rw [hstep]; simp), grow⟩, by dsimp only; omega, by cbv⟩
        · rw [show decide (y.toNat = v.toNat) = false by simp; omega] at hstep
          repeat refine AWp.seq ?_
          refine AWp.region ?_
          refine AOps.stepCall hT (an := {}) (fun A hA => by
              have f0 := ar_ne hA e
              repeat (cbv; simp only [f0])
              cbv) (Nat.zero_le _) rfl (.inr rfl) rfl rfl rfl (Nat.le_of_ble_eq_true rfl) rfl rfl (hcp) ?_
          refine AOps.done hT (an := {}) (fun A hA => by cbv) (Nat.zero_le _) ?_
          try dsimp only [AExit.then, AExit.block]
          cases r with
          | true =>
            repeat refine AWp.seq ?_
            refine AWp.cond (b := true) rfl ?_
            rw [if_pos rfl]
            repeat refine AWp.seq ?_
            refine AWp.reg1 {tk := [3, 38, 41]} hT (fun A hA => by
                have f0 := ar_app hA _ _ _ hl3
                have f1 := ar_fits hA l2 [.agg [I z, I y, I v]] (by simp; omega)
                repeat (cbv; simp only [f0, f1])
                cbv) (Nat.zero_le _) ?_
            try dsimp only [AExit.then, AExit.block]
            repeat refine AWp.seq ?_
            refine AWp.reg1 {} hT (fun A hA => by
                have f0 := ar_add hA v 1 v1 hv1 (by omega) (by omega)
                repeat (cbv; simp only [f0])
                cbv) (Nat.zero_le _) ?_
            try dsimp only [AExit.then, AExit.block]
            refine ⟨(v1, l3), ⟨by dsimp only; omega, by dsimp only; omega, hyes (by rw [hstep]; simp), grow⟩, by dsimp only; omega, by cbv⟩
          | false =>
            repeat refine AWp.seq ?_
            refine AWp.cond (b := false) rfl (AWp.skip ?_)
            try dsimp only [AExit.then, AExit.block]
            repeat refine AWp.seq ?_
            refine AWp.reg1 {} hT (fun A hA => by
                have f0 := ar_add hA v 1 v1 hv1 (by omega) (by omega)
                repeat (cbv; simp only [f0])
                cbv) (Nat.zero_le _) ?_
            try dsimp only [AExit.then, AExit.block]
            refine ⟨(v1, l2), ⟨by dsimp only; omega, by dsimp only; omega, by dsimp only; rw [hstep, el]; simp, by dsimp only; omega⟩, by dsimp only; omega, by cbv⟩
      · repeat refine AWp.seq ?_
        refine AWp.reg1 {} hT (fun A hA => by
            have f0 := ar_nlt hA hv
            repeat (cbv; simp only [f0])
            cbv) (Nat.zero_le _) ?_
        try dsimp only [AExit.then, AExit.block]
        repeat refine AWp.seq ?_
        refine AWp.cond (b := false) rfl (AWp.exit ?_)
        try dsimp only [AExit.then, AExit.block]
        rw [if_pos rfl]
        repeat refine AWp.seq ?_
        refine AWp.reg1 {} hT (fun A hA => by
            have f0 := ar_add hA y 1 y1 hy1 (by omega) (by omega)
            repeat (cbv; simp only [f0])
            cbv) (Nat.zero_le _) ?_
        try dsimp only [AExit.then, AExit.block]
        refine ⟨(y1, l2), ⟨by dsimp only; omega, by dsimp only; omega, ?_, by dsimp only; omega⟩, by dsimp only; omega, by cbv⟩
        dsimp only
        rw [show y1.toNat = y.toNat + 1 by omega, hSA, List.map_append, ← List.append_assoc, ← gl, el, show v.toNat = L.length by omega]
    · repeat refine AWp.seq ?_
      refine AWp.reg1 {} hT (fun A hA => by
          have f0 := ar_nlt hA hy
          repeat (cbv; simp only [f0])
          cbv) (Nat.zero_le _) ?_
      try dsimp only [AExit.then, AExit.block]
      repeat refine AWp.seq ?_
      refine AWp.cond (b := false) rfl (AWp.exit ?_)
      try dsimp only [AExit.then, AExit.block]
      rw [if_pos rfl]
      repeat refine AWp.seq ?_
      refine AWp.reg1 {} hT (fun A hA => by
          have f0 := ar_add hA z 1 z1 hz1 (by omega) (by omega)
          repeat (cbv; simp only [f0])
          cbv) (Nat.zero_le _) ?_
      try dsimp only [AExit.then, AExit.block]
      refine ⟨(z1, l1), ⟨by dsimp only; omega, by dsimp only; omega, ?_, by dsimp only; omega⟩, by dsimp only; omega, by cbv⟩
      dsimp only
      rw [show z1.toNat = z.toNat + 1 by omega, hS, List.map_append, ← hl, List.getD_eq_getElem?_getD, hL, gl, show y.toNat = L.length by omega]
      rfl
  · repeat refine AWp.seq ?_
    refine AWp.reg1 {} hT (fun A hA => by
        have f0 := ar_nlt hA hz
        repeat (cbv; simp only [f0])
        cbv) (Nat.zero_le _) ?_
    try dsimp only [AExit.then, AExit.block]
    repeat refine AWp.seq ?_
    refine AWp.cond (b := false) rfl (AWp.exit ?_)
    try dsimp only [AExit.then, AExit.block]
    rw [if_pos rfl]
    repeat refine AWp.seq ?_
    refine AWp.reg1 {tk := [3, 45]} hT (fun A hA => by cbv) (Nat.zero_le _) ?_
    try dsimp only [AExit.then, AExit.block]
    repeat refine AWp.seq ?_
    refine AWp.ret ⟨?_, rfl, rfl, Nat.zero_le _, _, rfl⟩
    rw [stationsR, show x.length = z.toNat by omega, ← hl]; rfl

theorem flatMap_lenR {α : Type} (g : Nat → List α) (B : Nat) : ∀ n, (∀ i, i < n → (g i).length ≤ B) → ((List.range n).flatMap g).length ≤ n * B
  | 0, _ => by simp
  | n + 1, h => by
    have h1 := flatMap_lenR g B n (fun i hi => h i (by omega))
    have h2 := h n (by omega)
    rw [flatMap_range_succ, List.length_append, Nat.succ_mul]
    omega
theorem stationsR_length {x : List (List Acc)} (hx : Small x) : (stationsR x).length ≤ 1000000000 := by
  have h1 : ∀ t a n, (stRB x t a n).length ≤ n := fun t a n => by
    unfold stRB
    rw [List.length_map]
    exact Nat.le_trans (List.length_filter_le _ _) (by simp)
  have h2 : ∀ t, (stRA x t (x.getD t []).length (x.getD t []).length).length ≤ 1000000 := fun t => by
    have := flatMap_lenR (fun a => stRB x t a (x.getD t []).length) 1000 (x.getD t []).length (fun a _ => Nat.le_trans (h1 _ _ _) (small_len hx t))
    have := small_len hx t
    unfold stRA; omega
  have h3 := flatMap_lenR (fun t => stRA x t (x.getD t []).length (x.getD t []).length) 1000000 x.length (fun t _ => h2 t)
  have := hx.1
  unfold stationsR stRT; omega

def pairsR (x : List (List Acc)) : List Sta := (stationsR x).filter fun s => decide (s.2.1 < s.2.2)
theorem PairsR_ok (x : List (List Acc)) (hx : Big x) (hsm : valid x = true → Small x) : ACall P 23 [.d (dX x)] [] (.tuple [.d (.list 3 (if valid x then (pairsR x).map dSta else [])), AI (if valid x then 0 else 90)]) [] := by
  have cv := validR_ok x hx
  cases hv : valid x with
  | false =>
    rw [hv] at cv
    obtain ⟨X, hX⟩ : ∃ X, dX x = X := ⟨_, rfl⟩
    rw [hX] at cv ⊢
    refine ACall.enter hT (fn := Try.f23) Try.func23 rfl (by decide) (by simp [Try.f23]) rfl rfl rfl rfl (Nat.le_refl _) ?_
    repeat refine AWp.seq ?_
    refine AWp.reg1 {} hT (fun A hA => by cbv) (Nat.zero_le _) ?_
    try dsimp only [AExit.then, AExit.block]
    repeat refine AWp.seq ?_
    refine AWp.region ?_
    refine AOps.stepCall hT (an := {}) (fun A hA => by cbv) (Nat.zero_le _) rfl (.inr rfl) rfl rfl rfl (Nat.le_of_ble_eq_true rfl) rfl rfl (cv) ?_
    refine AOps.done hT (an := {}) (fun A hA => by cbv) (Nat.zero_le _) ?_
    try dsimp only [AExit.then, AExit.block]
    repeat refine AWp.seq ?_
    refine AWp.cond (b := true) rfl ?_
    rw [if_pos rfl]
    repeat refine AWp.seq ?_
    refine AWp.reg1 {} hT (fun A hA => by cbv) (Nat.zero_le _) ?_
    try dsimp only [AExit.then, AExit.block]
    repeat refine AWp.seq ?_
    refine AWp.ret ⟨?_, rfl, rfl, Nat.zero_le _, _, rfl⟩
    rfl
  | true =>
    have hs := hsm hv
    rw [hv] at cv
    have cp := stationsR_ok x hs
    have hlen := stationsR_length hs
    unfold pairsR
    obtain ⟨l, hl⟩ : ∃ l, stationsR x = l := ⟨_, rfl⟩
    rw [hl] at cp hlen ⊢
    simp only [if_true]
    obtain ⟨X, hX⟩ : ∃ X, dX x = X := ⟨_, rfl⟩
    rw [hX] at cv cp ⊢
    obtain ⟨R, hR⟩ : ∃ R, l.map dSta = R := ⟨_, rfl⟩
    obtain ⟨n, hn⟩ : ∃ n : Int, (R.length : Int) = n := ⟨_, rfl⟩
    have hln : (l.length : Int) = n := by rw [← hn, ← hR]; simp
    rw [hR] at cp
    refine ACall.enter hT (fn := Try.f23) Try.func23 rfl (by decide) (by simp [Try.f23]) rfl rfl rfl rfl (Nat.le_refl _) ?_
    repeat refine AWp.seq ?_
    refine AWp.reg1 {} hT (fun A hA => by cbv) (Nat.zero_le _) ?_
    try dsimp only [AExit.then, AExit.block]
    repeat refine AWp.seq ?_
    refine AWp.region ?_
    refine AOps.stepCall hT (an := {}) (fun A hA => by cbv) (Nat.zero_le _) rfl (.inr rfl) rfl rfl rfl (Nat.le_of_ble_eq_true rfl) rfl rfl (cv) ?_
    refine AOps.done hT (an := {}) (fun A hA => by cbv) (Nat.zero_le _) ?_
    try dsimp only [AExit.then, AExit.block]
    repeat refine AWp.seq ?_
    refine AWp.cond (b := false) rfl (AWp.skip ?_)
    try dsimp only [AExit.then, AExit.block]
    repeat refine AWp.seq ?_
    refine AWp.reg1 {tk := [4]} hT (fun A hA => by cbv) (Nat.zero_le _) ?_
    try dsimp only [AExit.then, AExit.block]
    repeat refine AWp.seq ?_
    refine AWp.region ?_
    refine AOps.stepCall hT (an := {}) (fun A hA => by cbv) (Nat.zero_le _) rfl (.inr rfl) rfl rfl rfl (Nat.le_of_ble_eq_true rfl) rfl rfl (cp) ?_
    refine AOps.done hT (an := {}) (fun A hA => by
        have f0 := ar_len hA R n hn
        repeat (cbv; simp only [f0])
        cbv) (Nat.zero_le _) ?_
    try dsimp only [AExit.then, AExit.block]
    refine AWp.block (AWp.loopInv (ι := Int × List D) (fun p => 0 ≤ p.1 ∧ p.1 ≤ n ∧ p.2 = ((l.take p.1.toNat).filter fun s => decide (s.2.1 < s.2.2)).map dSta ∧ p.2.length ≤ p.1) (fun p => (n - p.1).toNat) [4, 11, 12, 13]
      (fun p => { env := [(4, .own 3 p.2), (11, .own 3 R), (12, AI n), (13, AI p.1)], heap := [], n := 28 }) (0, []) (by cbv) ⟨Int.le_refl _, by dsimp only; omega, by simp, by simp⟩ ?_)
    rintro ⟨z, L⟩ ⟨h0, h1, h2, h3⟩
    dsimp only at *
    by_cases hz : z < n
    · obtain ⟨z1, hz1⟩ : ∃ z1, z + 1 = z1 := ⟨_, rfl⟩
      obtain ⟨⟨a, b, c⟩, hs⟩ : ∃ s, l[z.toNat]? = some s := ⟨_, List.getElem?_eq_getElem (by omega)⟩
      have hXs : R[z.toNat]? = some (.agg [I a, I b, I c]) := by rw [← hR, List.getElem?_map, hs]; rfl
      obtain ⟨L1, hL1⟩ : ∃ l3, L ++ [.agg [I a, I b, I c]] = l3 := ⟨_, rfl⟩
      have hstep : l.take z1.toNat = l.take z.toNat ++ [(a, b, c)] := by rw [show z1.toNat = z.toNat + 1 by omega, List.take_add_one, hs]; rfl
      repeat refine AWp.seq ?_
      refine AWp.reg1 {} hT (fun A hA => by
          have f0 := ar_lt hA hz
          repeat (cbv; simp only [f0])
          cbv) (Nat.zero_le _) ?_
      try dsimp only [AExit.then, AExit.block]
      repeat refine AWp.seq ?_
      refine AWp.cond (b := true) rfl (AWp.skip ?_)
      try dsimp only [AExit.then, AExit.block]
      repeat refine AWp.seq ?_
      refine AWp.block ?_
      repeat refine AWp.seq ?_
      refine AWp.reg1 {} hT (fun A hA => by
          have f0 := ar_get hA hXs
          have f1 := ar_le hA h0
          repeat (cbv; simp only [f0, f1])
          cbv) (Nat.zero_le _) ?_
      try dsimp only [AExit.then, AExit.block]
      by_cases e : b < c
      · repeat refine AWp.seq ?_
        refine AWp.reg1 {} hT (fun A hA => by
            have f0 := ar_lt hA e
            repeat (cbv; simp only [f0])
            cbv) (Nat.zero_le _) ?_
        try dsimp only [AExit.then, AExit.block]
        repeat refine AWp.seq ?_
        refine AWp.cond (b := true) rfl ?_
        rw [if_pos rfl]
        repeat refine AWp.seq ?_
        refine AWp.reg1 {tk := [4, 22, 25]} hT (fun A hA => by
            have f0 := ar_app hA _ _ _ hL1
            have f1 := ar_fits hA L [.agg [I a, I b, I c]] (by simp; omega)
            repeat (cbv; simp only [f0, f1])
            cbv) (Nat.zero_le _) ?_
        try dsimp only [AExit.then, AExit.block]
        repeat refine AWp.seq ?_
        refine AWp.reg1 {} hT (fun A hA => by
            have f0 := ar_add hA z 1 z1 hz1 (by omega) (by omega)
            repeat (cbv; simp only [f0])
            cbv) (Nat.zero_le _) ?_
        try dsimp only [AExit.then, AExit.block]
        refine ⟨(z1, L1), ⟨by dsimp only; omega, by dsimp only; omega, ?_, by rw [← hL1]; simp; omega⟩, by dsimp only; omega, by cbv⟩
        dsimp only
        rw [hstep, List.filter_append, List.map_append, ← h2, ← hL1]
        simp [e, dSta]
      · repeat refine AWp.seq ?_
        refine AWp.reg1 {} hT (fun A hA => by
            have f0 := ar_nlt hA e
            repeat (cbv; simp only [f0])
            cbv) (Nat.zero_le _) ?_
        try dsimp only [AExit.then, AExit.block]
        repeat refine AWp.seq ?_
        refine AWp.cond (b := false) rfl (AWp.skip ?_)
        try dsimp only [AExit.then, AExit.block]
        repeat refine AWp.seq ?_
        refine AWp.reg1 {} hT (fun A hA => by
            have f0 := ar_add hA z 1 z1 hz1 (by omega) (by omega)
            repeat (cbv; simp only [f0])
            cbv) (Nat.zero_le _) ?_
        try dsimp only [AExit.then, AExit.block]
        refine ⟨(z1, L), ⟨by dsimp only; omega, by dsimp only; omega, ?_, by dsimp only; omega⟩, by dsimp only; omega, by cbv⟩
        dsimp only
        rw [hstep, List.filter_append, List.map_append, ← h2]
        simp [e]
    · repeat refine AWp.seq ?_
      refine AWp.reg1 {} hT (fun A hA => by
          have f0 := ar_nlt hA hz
          repeat (cbv; simp only [f0])
          cbv) (Nat.zero_le _) ?_
      try dsimp only [AExit.then, AExit.block]
      repeat refine AWp.seq ?_
      refine AWp.cond (b := false) rfl (AWp.exit ?_)
      try dsimp only [AExit.then, AExit.block]
      rw [if_pos rfl]
      repeat refine AWp.seq ?_
      refine AWp.reg1 {tk := [4, 27]} hT (fun A hA => by cbv) (Nat.zero_le _) ?_
      try dsimp only [AExit.then, AExit.block]
      repeat refine AWp.seq ?_
      refine AWp.ret ⟨?_, rfl, rfl, Nat.zero_le _, _, rfl⟩
      rw [h2, List.take_of_length_le (by omega)]; rfl
end Go.Am
