/- Own text: D1c. -/
import Derived.Test.YtalfdjihejohoaaD1b
set_option maxRecDepth 100000
set_option linter.unusedVariables false
set_option linter.unusedSimpArgs false
namespace Go.Am
open Go Go.Proofs
theorem foldl_range_succ {α : Type} (f : α → Nat → α) (a : α) (n : Nat) : (List.range (n + 1)).foldl f a = f ((List.range n).foldl f a) n := by
  rw [List.range_succ, List.foldl_append]; rfl
theorem ar_fits {A : Ar} (hA : A = Ar.std) (l m : List D) (h : l.length + m.length < 4294967296) : A.fits (A.zadd (A.len l) (A.len m)) = true := by
  subst hA; simp only [Ar.std]; simp; omega
theorem ar_app {A : Ar} (hA : A = Ar.std) (l m r : List D) (h : l ++ m = r) : A.app l m = r := by subst hA; exact h

/-- All accesses. -/
def spots (x : List (List Acc)) : List (Int × Int) := (List.range x.length).foldl (fun acc (t : Nat) => (List.range (x.getD t []).length).foldl (fun acc (a : Nat) => acc ++ [((t : Int), (a : Int))]) acc) []
def dSpot (s : Int × Int) : D := .agg [I s.1, I s.2]
def dSpots (l : List (Int × Int)) : D := .list 2 (l.map dSpot)

theorem spots_ok (x : List (List Acc)) (hx : Small x) : ACall P 62 [.d (dX x)] [] (.d (dSpots (spots x))) [] := by
  obtain ⟨X, hX⟩ : ∃ X, x.map dAccs = X := ⟨_, rfl⟩
  obtain ⟨n, hn⟩ : ∃ n : Int, (X.length : Int) = n := ⟨_, rfl⟩
  have hxl : (x.length : Int) = n := by rw [← hn, ← hX]; simp
  have hs := hx.1
  unfold dX
  rw [hX]
  refine ACall.enter hT (fn := Try.f62) Try.func62 rfl (by decide) (by simp [Try.f62]) rfl rfl rfl rfl (Nat.le_refl _) ?_
  repeat refine AWp.seq ?_
  refine AWp.reg1 {tk := [3]} hT (fun A hA => by cbv) (Nat.zero_le _) ?_
  try dsimp only [AExit.then, AExit.block]
  repeat refine AWp.seq ?_
  refine AWp.reg1 {tk := [3]} hT (fun A hA => by cbv) (Nat.zero_le _) ?_
  try dsimp only [AExit.then, AExit.block]
  repeat refine AWp.seq ?_
  refine AWp.reg1 {} hT (fun A hA => by
      have f0 := ar_len hA X n hn
      repeat (cbv; simp only [f0])
      cbv) (Nat.zero_le _) ?_
  try dsimp only [AExit.then, AExit.block]
  let F : Nat → List (Int × Int) := fun i => (List.range i).foldl (fun acc (t : Nat) => (List.range (x.getD t []).length).foldl (fun acc (a : Nat) => acc ++ [((t : Int), (a : Int))]) acc) []
  have hF : ∀ i, F (i + 1) = (List.range (x.getD i []).length).foldl (fun acc (a : Nat) => acc ++ [((i : Int), (a : Int))]) (F i) := fun i => foldl_range_succ _ _ _
  refine AWp.block (AWp.loopInv (ι := Int × List D) (fun p => 0 ≤ p.1 ∧ p.1 ≤ n ∧ p.2 = (F p.1.toNat).map dSpot ∧ p.2.length ≤ p.1 * 1000) (fun p => (n - p.1).toNat) [0, 3, 7, 8, 9]
    (fun p => { env := [(0, .d (.list 1 X)), (3, .own 2 p.2), (7, .d (.list 1 X)), (8, AI n), (9, AI p.1)], heap := [], n := 28 }) (0, []) (by cbv) ⟨Int.le_refl _, by omega, rfl, by simp⟩ ?_)
  rintro ⟨z, l⟩ ⟨h0, h1, hl, hlen⟩
  dsimp only at *
  by_cases hz : z < n
  · obtain ⟨L, hL⟩ : ∃ L, x[z.toNat]? = some L := ⟨_, List.getElem?_eq_getElem (by omega)⟩
    obtain ⟨L', hL'⟩ : ∃ L', L.map dAcc = L' := ⟨_, rfl⟩
    obtain ⟨k, hk⟩ : ∃ n : Int, (L'.length : Int) = n := ⟨_, rfl⟩
    have hkL : (L.length : Int) = k := by rw [← hk, ← hL']; simp
    have hs2 := hx.2 L (List.mem_of_getElem? hL)
    have hXt : X[z.toNat]? = some (.list 2 L') := by rw [← hX, List.getElem?_map, hL, ← hL']; rfl
    obtain ⟨z1, hz1⟩ : ∃ z1, z + 1 = z1 := ⟨_, rfl⟩
    repeat refine AWp.seq ?_
    refine AWp.reg1 {} hT (fun A hA => by
        have f0 := ar_lt hA hz
        repeat (cbv; simp only [f0])
        cbv) (Nat.zero_le _) ?_
    try dsimp only [AExit.then, AExit.block]
    repeat refine AWp.seq ?_
    refine AWp.cond (b := true) rfl (AWp.skip ?_)
    try dsimp only [AExit.then, AExit.block]
    repeat refine AWp.seq ?_
    refine AWp.block ?_
    repeat refine AWp.seq ?_
    refine AWp.reg1 {} hT (fun A hA => by
        have f0 := ar_get hA hXt
        have f1 := ar_le hA h0
        repeat (cbv; simp only [f0, f1])
        cbv) (Nat.zero_le _) ?_
    try dsimp only [AExit.then, AExit.block]
    repeat refine AWp.seq ?_
    refine AWp.reg1 {} hT (fun A hA => by
        have f0 := ar_len hA L' k hk
        repeat (cbv; simp only [f0])
        cbv) (Nat.zero_le _) ?_
    try dsimp only [AExit.then, AExit.block]
    let F' : Nat → List (Int × Int) := fun i => (List.range i).foldl (fun acc (a : Nat) => acc ++ [((z.toNat : Int), (a : Int))]) (F z.toNat)
    have hF' : ∀ i, F' (i + 1) = F' i ++ [((z.toNat : Int), (i : Int))] := fun i => foldl_range_succ _ _ _
    refine AWp.block (AWp.loopInv (ι := Int × List D) (fun p => 0 ≤ p.1 ∧ p.1 ≤ k ∧ p.2 = (F' p.1.toNat).map dSpot ∧ p.2.length ≤ z * 1000 + p.1) (fun p => (k - p.1).toNat) [0, 3, 4, 7, 8, 9, 15, 16]
      (fun p => { env := [(0, .d (.list 1 X)), (3, .own 2 p.2), (4, AI z), (7, .d (.list 1 X)), (8, AI n), (9, AI z), (15, AI k), (16, AI p.1)], heap := [], n := 28 }) (0, l) (by cbv) ⟨Int.le_refl _, by omega, hl, by simpa using hlen⟩ ?_)
    rintro ⟨y, l1⟩ ⟨g0, g1, gl, glen⟩
    dsimp only at *
    by_cases hy : y < k
    · repeat refine AWp.seq ?_
      refine AWp.reg1 {} hT (fun A hA => by
          have f0 := ar_lt hA hy
          repeat (cbv; simp only [f0])
          cbv) (Nat.zero_le _) ?_
      try dsimp only [AExit.then, AExit.block]
      repeat refine AWp.seq ?_
      refine AWp.cond (b := true) rfl (AWp.skip ?_)
      try dsimp only [AExit.then, AExit.block]
      repeat refine AWp.seq ?_
      refine AWp.block ?_
      repeat refine AWp.seq ?_
      refine AWp.reg1 {} hT (fun A hA => by cbv) (Nat.zero_le _) ?_
      try dsimp only [AExit.then, AExit.block]
      obtain ⟨l2, hl2⟩ : ∃ l2, l1 ++ [.agg [I z, I y]] = l2 := ⟨_, rfl⟩
      obtain ⟨y1, hy1⟩ : ∃ z1, y + 1 = z1 := ⟨_, rfl⟩
      repeat refine AWp.seq ?_
      refine AWp.reg1 {tk := [3, 19, 24]} hT (fun A hA => by
          have f0 := ar_app hA _ _ _ hl2
          have f1 := ar_fits hA l1 [.agg [I z, I y]] (by simp; omega)
          repeat (cbv; simp only [f0, f1])
          cbv) (Nat.zero_le _) ?_
      try dsimp only [AExit.then, AExit.block]
      repeat refine AWp.seq ?_
      refine AWp.reg1 {} hT (fun A hA => by
          have f0 := ar_add hA y 1 y1 hy1 (by omega) (by omega)
          repeat (cbv; simp only [f0])
          cbv) (Nat.zero_le _) ?_
      try dsimp only [AExit.then, AExit.block]
      refine ⟨(y1, l2), ⟨by omega, by omega, ?_, ?_⟩, by dsimp only; omega, by cbv⟩
      · dsimp only
        rw [← hl2, gl, show y1.toNat = y.toNat + 1 by omega, hF', List.map_append, show (y.toNat : Int) = y by omega, show (z.toNat : Int) = z by omega]; rfl
      · rw [← hl2]; simp; omega
    · repeat refine AWp.seq ?_
      refine AWp.reg1 {} hT (fun A hA => by
          have f0 := ar_nlt hA hy
          repeat (cbv; simp only [f0])
          cbv) (Nat.zero_le _) ?_
      try dsimp only [AExit.then, AExit.block]
      repeat refine AWp.seq ?_
      refine AWp.cond (b := false) rfl (AWp.exit ?_)
      try dsimp only [AExit.then, AExit.block]
      rw [if_pos rfl]
      repeat refine AWp.seq ?_
      refine AWp.reg1 {} hT (fun A hA => by
          have f0 := ar_add hA z 1 z1 hz1 (by omega) (by omega)
          repeat (cbv; simp only [f0])
          cbv) (Nat.zero_le _) ?_
      try dsimp only [AExit.then, AExit.block]
      refine ⟨(z1, l1), ⟨by omega, by omega, ?_, ?_⟩, by dsimp only; omega, by cbv⟩
      · dsimp only
        rw [gl, show z1.toNat = z.toNat + 1 by omega, hF, show y.toNat = L.length by omega, List.getD_eq_getElem?_getD, hL]; rfl
      · dsimp only; omega
  · repeat refine AWp.seq ?_
    refine AWp.reg1 {} hT (fun A hA => by
        have f0 := ar_nlt hA hz
        repeat (cbv; simp only [f0])
        cbv) (Nat.zero_le _) ?_
    try dsimp only [AExit.then, AExit.block]
    repeat refine AWp.seq ?_
    refine AWp.cond (b := false) rfl (AWp.exit ?_)
    try dsimp only [AExit.then, AExit.block]
    rw [if_pos rfl]
    repeat refine AWp.seq ?_
    refine AWp.reg1 {} hT (fun A hA => by cbv) (Nat.zero_le _) ?_
    try dsimp only [AExit.then, AExit.block]
    repeat refine AWp.seq ?_
    refine AWp.ret ⟨?_, rfl, rfl, Nat.zero_le _, _, rfl⟩
    have : spots x = F z.toNat := by rw [show z.toNat = x.length by omega]; rfl
    rw [dSpots, this, ← hl]; rfl
end Go.Am
