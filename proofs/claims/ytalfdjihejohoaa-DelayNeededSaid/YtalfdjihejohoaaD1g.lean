/- Own text: D1g. -/
import Derived.Test.YtalfdjihejohoaaD1f
set_option maxRecDepth 100000
set_option linter.unusedVariables false
set_option linter.unusedSimpArgs false
namespace Go.Am
open Go Go.Proofs

/-- The stations that begin with an access. -/
def staB (x : List (List Acc)) (t a n : Nat) : List Sta := ((List.range n).filter fun (b : Nat) => decide (a ≤ b) && (decide (a = b) || isPair x ((t : Int), (a : Int), (b : Int)))).map fun (b : Nat) => ((t : Int), (a : Int), (b : Int))
def staA (x : List (List Acc)) (t n m : Nat) : List Sta := (List.range m).flatMap fun a => staB x t a n
def staT (x : List (List Acc)) (n : Nat) : List Sta := (List.range n).flatMap fun t => staA x t (x.getD t []).length (x.getD t []).length
def stations (x : List (List Acc)) : List Sta := staT x x.length
theorem flatMap_range_succ {α : Type} (g : Nat → List α) (n : Nat) : (List.range (n + 1)).flatMap g = (List.range n).flatMap g ++ g n := by
  rw [List.range_succ, List.flatMap_append]; simp
theorem staB_succ (x : List (List Acc)) (t a n : Nat) : staB x t a (n + 1) = staB x t a n ++ if decide (a ≤ n) && (decide (a = n) || isPair x ((t : Int), (a : Int), (n : Int))) then [((t : Int), (a : Int), (n : Int))] else [] := by
  unfold staB
  rw [List.range_succ, List.filter_append, List.map_append]
  congr 1
  simp only [List.filter_cons, List.filter_nil]
  split <;> rfl
theorem staB_self (x : List (List Acc)) (t a : Nat) : staB x t a a = [] := by
  unfold staB
  rw [List.map_eq_nil_iff, List.filter_eq_nil_iff]
  intro b hb
  have := List.mem_range.1 hb
  simp; omega

theorem stations_ok (x : List (List Acc)) (hx : Small x) : ACall P 78 [.d (dX x)] [] (.own 3 ((stations x).map dSta)) [] := by
  have cp := fun s => isPair_ok x s hx
  unfold dX at *
  obtain ⟨X, hX⟩ : ∃ X, x.map dAccs = X := ⟨_, rfl⟩
  obtain ⟨n, hn⟩ : ∃ n : Int, (X.length : Int) = n := ⟨_, rfl⟩
  have hxl : (x.length : Int) = n := by rw [← hn, ← hX]; simp
  have hs := hx.1
  rw [hX] at cp ⊢
  have hS : ∀ m, staT x (m + 1) = staT x m ++ staA x m (x.getD m []).length (x.getD m []).length := fun m => flatMap_range_succ _ _
  have hSA : ∀ t n m, staA x t n (m + 1) = staA x t n m ++ staB x t m n := fun t n m => flatMap_range_succ _ _
  refine ACall.enter hT (fn := Try.f78) Try.func78 rfl (by decide) (by simp [Try.f78]) rfl rfl rfl rfl (Nat.le_refl _) ?_
  repeat refine AWp.seq ?_
  refine AWp.reg1 {tk := [3]} hT (fun A hA => by cbv) (Nat.zero_le _) ?_
  try dsimp only [AExit.then, AExit.block]
  repeat refine AWp.seq ?_
  refine AWp.reg1 {tk := [3]} hT (fun A hA => by cbv) (Nat.zero_le _) ?_
  try dsimp only [AExit.then, AExit.block]
  repeat refine AWp.seq ?_
  refine AWp.reg1 {} hT (fun A hA => by
      have f0 := ar_len hA X n hn
      repeat (cbv; simp only [f0])
      cbv) (Nat.zero_le _) ?_
  try dsimp only [AExit.then, AExit.block]
  refine AWp.block (AWp.loopInv (ι := Int × List D) (fun p => 0 ≤ p.1 ∧ p.1 ≤ n ∧ p.2 = (staT x p.1.toNat).map dSta ∧ p.2.length ≤ p.1 * 1000000) (fun p => (n - p.1).toNat) [0, 3, 9, 10, 11]
    (fun p => { env := [(0, .d (.list 1 X)), (3, .own 3 p.2), (9, .d (.list 1 X)), (10, AI n), (11, AI p.1)], heap := [], n := 47 }) (0, []) (by cbv) ⟨Int.le_refl _, by omega, rfl, by simp⟩ ?_)
  rintro ⟨z, l⟩ ⟨h0, h1, hl, hlen⟩
  dsimp only at *
  by_cases hz : z < n
  · obtain ⟨L, hL⟩ : ∃ L, x[z.toNat]? = some L := ⟨_, List.getElem?_eq_getElem (by omega)⟩
    obtain ⟨L', hL'⟩ : ∃ L', L.map dAcc = L' := ⟨_, rfl⟩
    obtain ⟨k, hk⟩ : ∃ n : Int, (L'.length : Int) = n := ⟨_, rfl⟩
    have hkL : (L.length : Int) = k := by rw [← hk, ← hL']; simp
    have hs2 := hx.2 L (List.mem_of_getElem? hL)
    have hXt : X[z.toNat]? = some (.list 2 L') := by rw [← hX, List.getElem?_map, hL, ← hL']; rfl
    obtain ⟨z1, hz1⟩ : ∃ z1, z + 1 = z1 := ⟨_, rfl⟩
    repeat refine AWp.seq ?_
    refine AWp.reg1 {} hT (fun A hA => by
        have f0 := ar_lt hA hz
        repeat (cbv; simp only [f0])
        cbv) (Nat.zero_le _) ?_
    try dsimp only [AExit.then, AExit.block]
    repeat refine AWp.seq ?_
    refine AWp.cond (b := true) rfl (AWp.skip ?_)
    try dsimp only [AExit.then, AExit.block]
    repeat refine AWp.seq ?_
    refine AWp.block ?_
    repeat refine AWp.seq ?_
    refine AWp.reg1 {} hT (fun A hA => by
        have f0 := ar_get hA hXt
        have f1 := ar_le hA h0
        repeat (cbv; simp only [f0, f1])
        cbv) (Nat.zero_le _) ?_
    try dsimp only [AExit.then, AExit.block]
    repeat refine AWp.seq ?_
    refine AWp.reg1 {} hT (fun A hA => by
        have f0 := ar_len hA L' k hk
        repeat (cbv; simp only [f0])
        cbv) (Nat.zero_le _) ?_
    try dsimp only [AExit.then, AExit.block]
    refine AWp.block (AWp.loopInv (ι := Int × List D) (fun p => 0 ≤ p.1 ∧ p.1 ≤ k ∧ p.2 = l ++ (staA x z.toNat L.length p.1.toNat).map dSta ∧ p.2.length ≤ z * 1000000 + p.1 * 1000) (fun p => (k - p.1).toNat) [0, 3, 4, 5, 9, 10, 11, 17, 18]
      (fun p => { env := [(0, .d (.list 1 X)), (3, .own 3 p.2), (4, AI z), (5, .d (.list 2 L')), (9, .d (.list 1 X)), (10, AI n), (11, AI z), (17, AI k), (18, AI p.1)], heap := [], n := 47 }) (0, l) (by cbv) ⟨Int.le_refl _, by omega, by simp [staA], by simpa using hlen⟩ ?_)
    rintro ⟨y, l1⟩ ⟨g0, g1, gl, glen⟩
    dsimp only at *
    by_cases hy : y < k
    · obtain ⟨y1, hy1⟩ : ∃ z1, y + 1 = z1 := ⟨_, rfl⟩
      repeat refine AWp.seq ?_
      refine AWp.reg1 {} hT (fun A hA => by
          have f0 := ar_lt hA hy
          repeat (cbv; simp only [f0])
          cbv) (Nat.zero_le _) ?_
      try dsimp only [AExit.then, AExit.block]
      repeat refine AWp.seq ?_
      refine AWp.cond (b := true) rfl (AWp.skip ?_)
      try dsimp only [AExit.then, AExit.block]
      repeat refine AWp.seq ?_
      refine AWp.block ?_
      repeat refine AWp.seq ?_
      refine AWp.reg1 {} hT (fun A hA => by cbv) (Nat.zero_le _) ?_
      try dsimp only [AExit.then, AExit.block]
      repeat refine AWp.seq ?_
      refine AWp.reg1 {} hT (fun A hA => by cbv) (Nat.zero_le _) ?_
      try dsimp only [AExit.then, AExit.block]
      refine AWp.block (AWp.loopInv (ι := Int × List D) (fun p => y ≤ p.1 ∧ p.1 ≤ k ∧ p.2 = l1 ++ (staB x z.toNat y.toNat p.1.toNat).map dSta ∧ p.2.length ≤ z * 1000000 + y * 1000 + p.1) (fun p => (k - p.1).toNat) [0, 3, 4, 5, 6, 7, 9, 10, 11, 17, 18]
        (fun p => { env := [(0, .d (.list 1 X)), (3, .own 3 p.2), (4, AI z), (5, .d (.list 2 L')), (6, AI y), (7, AI p.1), (9, .d (.list 1 X)), (10, AI n), (11, AI z), (17, AI k), (18, AI y)], heap := [], n := 47 }) (y, l1) (by cbv) ⟨Int.le_refl _, g1, by simp [staB_self], by dsimp only; omega⟩ ?_)
      rintro ⟨v, l2⟩ ⟨e0, e1, el, elen⟩
      dsimp only at *
      by_cases hv : v < k
      · obtain ⟨v1, hv1⟩ : ∃ z1, v + 1 = z1 := ⟨_, rfl⟩
        obtain ⟨l3, hl3⟩ : ∃ l3, l2 ++ [.agg [I z, I y, I v]] = l3 := ⟨_, rfl⟩
        have hstep := staB_succ x z.toNat y.toNat v.toNat
        rw [show (z.toNat : Int) = z by omega, show (y.toNat : Int) = y by omega, show (v.toNat : Int) = v by omega, show v.toNat + 1 = v1.toNat by omega, show decide (y.toNat ≤ v.toNat) = true by simp; omega] at hstep
        have hcp := cp (z, y, v)
        unfold dSta at hcp
        dsimp only at hcp
        obtain ⟨r, hr⟩ : ∃ r, isPair x (z, y, v) = r := ⟨_, rfl⟩
        rw [hr] at hcp hstep
        have grow : l3.length ≤ z * 1000000 + y * 1000 + v1 := by rw [← hl3]; simp; omega
        have hyes : staB x z.toNat y.toNat v1.toNat = staB x z.toNat y.toNat v.toNat ++ [(z, y, v)] → l3 = l1 ++ (staB x z.toNat y.toNat v1.toNat).map dSta := fun h => by
          rw [h, List.map_append, ← List.append_assoc, ← el, ← hl3]; rfl
        repeat refine AWp.seq ?_
        refine AWp.reg1 {} hT (fun A hA => by
            have f0 := ar_len hA L' k hk
            have f1 := ar_lt hA hv
            repeat (cbv; simp only [f0, f1])
            cbv) (Nat.zero_le _) ?_
        try dsimp only [AExit.then, AExit.block]
        repeat refine AWp.seq ?_
        refine AWp.cond (b := true) rfl (AWp.skip ?_)
        try dsimp only [AExit.then, AExit.block]
        repeat refine AWp.seq ?_
        refine AWp.block ?_
        repeat refine AWp.seq ?_
        refine AWp.reg1 {} hT (fun A hA => by cbv) (Nat.zero_le _) ?_
        try dsimp only [AExit.then, AExit.block]
        by_cases e : y = v
        · rw [show decide (y.toNat = v.toNat) = true by simp; omega] at hstep
          repeat refine AWp.seq ?_
          refine AWp.reg1 {} hT (fun A hA => by
              have f0 := ar_eq hA e
              repeat (cbv; simp only [f0])
              cbv) (Nat.zero_le _) ?_
          try dsimp only [AExit.then, AExit.block]
          repeat refine AWp.seq ?_
          refine AWp.cond (b := true) rfl ?_
          rw [if_pos rfl]
          repeat refine AWp.seq ?_
          refine AWp.reg1 {tk := [3, 40, 43]} hT (fun A hA => by
              have f0 := ar_app hA _ _ _ hl3
              have f1 := ar_fits hA l2 [.agg [I z, I y, I v]] (by simp; omega)
              repeat (cbv; simp only [f0, f1])
              cbv) (Nat.zero_le _) ?_
          try dsimp only [AExit.then, AExit.block]
          repeat refine AWp.seq ?_
          refine AWp.reg1 {} hT (fun A hA => by
              have f0 := ar_add hA v 1 v1 hv1 (by omega) (by omega)
              repeat (cbv; simp only [f0])
              cbv) (Nat.zero_le _) ?_
          try dsimp only [AExit.then, AExit.block]
          refine ⟨(v1, l3), ⟨by dsimp only; omega, by dsimp only; omega, hyes (by rw [hstep]; simp), grow⟩, by dsimp only; omega, by cbv⟩
        · rw [show decide (y.toNat = v.toNat) = false by simp; omega] at hstep
          repeat refine AWp.seq ?_
          refine AWp.region ?_
          refine AOps.stepCall hT (an := {}) (fun A hA => by
              have f0 := ar_ne hA e
              repeat (cbv; simp only [f0])
              cbv) (Nat.zero_le _) rfl (.inr rfl) rfl rfl rfl (Nat.le_of_ble_eq_true rfl) rfl rfl (hcp) ?_
          refine AOps.done hT (an := {}) (fun A hA => by cbv) (Nat.zero_le _) ?_
          try dsimp only [AExit.then, AExit.block]
          cases r with
          | true =>
            repeat refine AWp.seq ?_
            refine AWp.cond (b := true) rfl ?_
            rw [if_pos rfl]
            repeat refine AWp.seq ?_
            refine AWp.reg1 {tk := [3, 40, 43]} hT (fun A hA => by
                have f0 := ar_app hA _ _ _ hl3
                have f1 := ar_fits hA l2 [.agg [I z, I y, I v]] (by simp; omega)
                repeat (cbv; simp only [f0, f1])
                cbv) (Nat.zero_le _) ?_
            try dsimp only [AExit.then, AExit.block]
            repeat refine AWp.seq ?_
            refine AWp.reg1 {} hT (fun A hA => by
                have f0 := ar_add hA v 1 v1 hv1 (by omega) (by omega)
                repeat (cbv; simp only [f0])
                cbv) (Nat.zero_le _) ?_
            try dsimp only [AExit.then, AExit.block]
            refine ⟨(v1, l3), ⟨by dsimp only; omega, by dsimp only; omega, hyes (by rw [hstep]; simp), grow⟩, by dsimp only; omega, by cbv⟩
          | false =>
            repeat refine AWp.seq ?_
            refine AWp.cond (b := false) rfl (AWp.skip ?_)
            try dsimp only [AExit.then, AExit.block]
            repeat refine AWp.seq ?_
            refine AWp.reg1 {} hT (fun A hA => by
                have f0 := ar_add hA v 1 v1 hv1 (by omega) (by omega)
                repeat (cbv; simp only [f0])
                cbv) (Nat.zero_le _) ?_
            try dsimp only [AExit.then, AExit.block]
            refine ⟨(v1, l2), ⟨by dsimp only; omega, by dsimp only; omega, by dsimp only; rw [hstep, el]; simp, by dsimp only; omega⟩, by dsimp only; omega, by cbv⟩
      · repeat refine AWp.seq ?_
        refine AWp.reg1 {} hT (fun A hA => by
            have f0 := ar_len hA L' k hk
            have f1 := ar_nlt hA hv
            repeat (cbv; simp only [f0, f1])
            cbv) (Nat.zero_le _) ?_
        try dsimp only [AExit.then, AExit.block]
        repeat refine AWp.seq ?_
        refine AWp.cond (b := false) rfl (AWp.exit ?_)
        try dsimp only [AExit.then, AExit.block]
        rw [if_pos rfl]
        repeat refine AWp.seq ?_
        refine AWp.reg1 {} hT (fun A hA => by
            have f0 := ar_add hA y 1 y1 hy1 (by omega) (by omega)
            repeat (cbv; simp only [f0])
            cbv) (Nat.zero_le _) ?_
        try dsimp only [AExit.then, AExit.block]
        refine ⟨(y1, l2), ⟨by dsimp only; omega, by dsimp only; omega, ?_, by dsimp only; omega⟩, by dsimp only; omega, by cbv⟩
        dsimp only
        rw [show y1.toNat = y.toNat + 1 by omega, hSA, List.map_append, ← List.append_assoc, ← gl, el, show v.toNat = L.length by omega]
    · repeat refine AWp.seq ?_
      refine AWp.reg1 {} hT (fun A hA => by
          have f0 := ar_nlt hA hy
          repeat (cbv; simp only [f0])
          cbv) (Nat.zero_le _) ?_
      try dsimp only [AExit.then, AExit.block]
      repeat refine AWp.seq ?_
      refine AWp.cond (b := false) rfl (AWp.exit ?_)
      try dsimp only [AExit.then, AExit.block]
      rw [if_pos rfl]
      repeat refine AWp.seq ?_
      refine AWp.reg1 {} hT (fun A hA => by
          have f0 := ar_add hA z 1 z1 hz1 (by omega) (by omega)
          repeat (cbv; simp only [f0])
          cbv) (Nat.zero_le _) ?_
      try dsimp only [AExit.then, AExit.block]
      refine ⟨(z1, l1), ⟨by dsimp only; omega, by dsimp only; omega, ?_, by dsimp only; omega⟩, by dsimp only; omega, by cbv⟩
      dsimp only
      rw [show z1.toNat = z.toNat + 1 by omega, hS, List.map_append, ← hl, List.getD_eq_getElem?_getD, hL, gl, show y.toNat = L.length by omega]
      rfl
  · repeat refine AWp.seq ?_
    refine AWp.reg1 {} hT (fun A hA => by
        have f0 := ar_nlt hA hz
        repeat (cbv; simp only [f0])
        cbv) (Nat.zero_le _) ?_
    try dsimp only [AExit.then, AExit.block]
    repeat refine AWp.seq ?_
    refine AWp.cond (b := false) rfl (AWp.exit ?_)
    try dsimp only [AExit.then, AExit.block]
    rw [if_pos rfl]
    repeat refine AWp.seq ?_
    refine AWp.reg1 {tk := [3, 46]} hT (fun A hA => by cbv) (Nat.zero_le _) ?_
    try dsimp only [AExit.then, AExit.block]
    repeat refine AWp.seq ?_
    refine AWp.ret ⟨?_, rfl, rfl, Nat.zero_le _, _, rfl⟩
    rw [stations, show x.length = z.toNat by omega, ← hl]; rfl
end Go.Am
