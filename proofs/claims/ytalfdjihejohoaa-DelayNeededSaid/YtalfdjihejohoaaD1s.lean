/- Own text: D1s. -/
import Derived.Test.YtalfdjihejohoaaD1r
set_option maxRecDepth 100000
set_option linter.unusedVariables false
set_option linter.unusedSimpArgs false
namespace Go.Am
open Go Go.Proofs

/-- Stations as arrays. -/
theorem plain_ok (l : List Sta) (hl : l.length ≤ 4000000000) : ACall P 72 [.d (.list 3 (l.map dSta))] [] (.own 3 (l.map dSta)) [] := by
  obtain ⟨X, hX⟩ : ∃ X, l.map dSta = X := ⟨_, rfl⟩
  obtain ⟨n, hn⟩ : ∃ n : Int, (X.length : Int) = n := ⟨_, rfl⟩
  have hxl : (l.length : Int) = n := by rw [← hn, ← hX]; simp
  rw [hX]
  refine ACall.enter hT (fn := Try.f72) Try.func72 rfl (by decide) (by simp [Try.f72]) rfl rfl rfl rfl (Nat.le_refl _) ?_
  repeat refine AWp.seq ?_
  refine AWp.reg1 {tk := [2]} hT (fun A hA => by cbv) (Nat.zero_le _) ?_
  try dsimp only [AExit.then, AExit.block]
  repeat refine AWp.seq ?_
  refine AWp.reg1 {tk := [3]} hT (fun A hA => by cbv) (Nat.zero_le _) ?_
  try dsimp only [AExit.then, AExit.block]
  repeat refine AWp.seq ?_
  refine AWp.reg1 {} hT (fun A hA => by
      have f0 := ar_len hA X n hn
      repeat (cbv; simp only [f0])
      cbv) (Nat.zero_le _) ?_
  try dsimp only [AExit.then, AExit.block]
  refine AWp.block (AWp.loopInv (ι := Int × List D) (fun p => 0 ≤ p.1 ∧ p.1 ≤ n ∧ p.2 = X.take p.1.toNat) (fun p => (n - p.1).toNat) [0, 3, 6, 7, 8]
    (fun p => { env := [(0, .d (.list 3 X)), (3, .own 3 p.2), (6, .d (.list 3 X)), (7, AI n), (8, AI p.1)], heap := [], n := 18 }) (0, []) (by cbv) ⟨Int.le_refl _, by dsimp only; omega, by simp⟩ ?_)
  rintro ⟨z, L⟩ ⟨h0, h1, h2⟩
  dsimp only at *
  by_cases hz : z < n
  · obtain ⟨z1, hz1⟩ : ∃ z1, z + 1 = z1 := ⟨_, rfl⟩
    obtain ⟨⟨a, b, c⟩, hs⟩ : ∃ s, l[z.toNat]? = some s := ⟨_, List.getElem?_eq_getElem (by omega)⟩
    have hXs : X[z.toNat]? = some (.agg [I a, I b, I c]) := by rw [← hX, List.getElem?_map, hs]; rfl
    obtain ⟨L1, hL1⟩ : ∃ l3, L ++ [.agg [I a, I b, I c]] = l3 := ⟨_, rfl⟩
    have hLl : L.length ≤ z := by rw [h2]; simp; omega
    repeat refine AWp.seq ?_
    refine AWp.reg1 {} hT (fun A hA => by
        have f0 := ar_lt hA hz
        repeat (cbv; simp only [f0])
        cbv) (Nat.zero_le _) ?_
    try dsimp only [AExit.then, AExit.block]
    repeat refine AWp.seq ?_
    refine AWp.cond (b := true) rfl (AWp.skip ?_)
    try dsimp only [AExit.then, AExit.block]
    repeat refine AWp.seq ?_
    refine AWp.block ?_
    repeat refine AWp.seq ?_
    refine AWp.reg1 {} hT (fun A hA => by
        have f0 := ar_get hA hXs
        have f1 := ar_le hA h0
        repeat (cbv; simp only [f0, f1])
        cbv) (Nat.zero_le _) ?_
    try dsimp only [AExit.then, AExit.block]
    repeat refine AWp.seq ?_
    refine AWp.reg1 {tk := [3, 12, 15]} hT (fun A hA => by
        have f0 := ar_app hA _ _ _ hL1
        have f1 := ar_fits hA L [.agg [I a, I b, I c]] (by simp; omega)
        repeat (cbv; simp only [f0, f1])
        cbv) (Nat.zero_le _) ?_
    try dsimp only [AExit.then, AExit.block]
    repeat refine AWp.seq ?_
    refine AWp.reg1 {} hT (fun A hA => by
        have f0 := ar_add hA z 1 z1 hz1 (by omega) (by omega)
        repeat (cbv; simp only [f0])
        cbv) (Nat.zero_le _) ?_
    try dsimp only [AExit.then, AExit.block]
    refine ⟨(z1, L1), ⟨by dsimp only; omega, by dsimp only; omega, ?_⟩, by dsimp only; omega, by cbv⟩
    dsimp only
    rw [← hL1, h2, show z1.toNat = z.toNat + 1 by omega, List.take_add_one, hXs]; rfl
  · repeat refine AWp.seq ?_
    refine AWp.reg1 {} hT (fun A hA => by
        have f0 := ar_nlt hA hz
        repeat (cbv; simp only [f0])
        cbv) (Nat.zero_le _) ?_
    try dsimp only [AExit.then, AExit.block]
    repeat refine AWp.seq ?_
    refine AWp.cond (b := false) rfl (AWp.exit ?_)
    try dsimp only [AExit.then, AExit.block]
    rw [if_pos rfl]
    repeat refine AWp.seq ?_
    refine AWp.reg1 {tk := [3, 17]} hT (fun A hA => by cbv) (Nat.zero_le _) ?_
    try dsimp only [AExit.then, AExit.block]
    repeat refine AWp.seq ?_
    refine AWp.ret ⟨?_, rfl, rfl, Nat.zero_le _, _, rfl⟩
    rw [h2, List.take_of_length_le (by omega)]; rfl

/-! ### Pairs -/
def pairsL (x : List (List Acc)) : List Sta := (stations x).filter (isPair x)

theorem pairs1_ok (x : List (List Acc)) (s : Sta) (hx : Small x) (L : List D) : ACall P 116 [.d (dSta s), .ptr 0 0] [.cells [.d (dX x)], .arr 3 L] (AB (!isPair x s)) [.cells [.d (dX x)], .arr 3 L] := by
  have cp := isPair_ok x s hx
  obtain ⟨t, a, b⟩ := s
  unfold dSta at *
  dsimp only at *
  obtain ⟨X, hX⟩ : ∃ X, dX x = X := ⟨_, rfl⟩
  obtain ⟨r, hr⟩ : ∃ r, isPair x (t, a, b) = r := ⟨_, rfl⟩
  rw [hX] at cp ⊢
  rw [hr] at cp ⊢
  have hin : objsInb 2 [.cells [.d X], .arr 3 L] = true := rfl
  refine ACall.enter hT (fn := Try.f116) Try.func116 rfl (by decide) (by simp [Try.f116]) rfl rfl rfl hin (Nat.le_refl _) ?_
  repeat refine AWp.seq ?_
  refine AWp.reg1 {} hT (fun A hA => by cbv) (Nat.le_of_ble_eq_true rfl) ?_
  try dsimp only [AExit.then, AExit.block]
  repeat refine AWp.seq ?_
  refine AWp.region ?_
  refine AOps.stepCall hT (an := {}) (fun A hA => by cbv) (Nat.le_of_ble_eq_true rfl) rfl (.inr rfl) rfl rfl rfl (Nat.le_of_ble_eq_true rfl) rfl rfl (cp) ?_
  refine AOps.done hT (an := {}) (fun A hA => by cbv) (Nat.le_of_ble_eq_true rfl) ?_
  try dsimp only [AExit.then, AExit.block]
  refine AWp.ret ⟨rfl, rfl, hin, Nat.le_refl _, [], by simp⟩

theorem index98e (f : FuncId) (bs : List AV) (H : List Obj) (hin : objsInb H.length H = true) (hbs : inbL H.length bs = true) (hbf : bs.all AV.free = true) :
    ACall P 122 [.d (.list 3 []), .func f [] bs] H (AI (-1)) H := by
  have h0 : ¬ (0 : Int) < 0 := by omega
  refine ACall.enter hT (fn := Try.f122) Try.func122 rfl (by decide) (by simp [Try.f122]) rfl rfl rfl hin (Nat.le_refl _) ?_
  repeat refine AWp.seq ?_
  refine AWp.reg1 {} hT (fun A hA => by cbv) (Nat.le_refl _) ?_
  try dsimp only [AExit.then, AExit.block]
  repeat refine AWp.seq ?_
  refine AWp.reg1 {} hT (fun A hA => by
      have f0 := ar_len hA [] 0 rfl
      repeat (cbv; simp only [f0])
      cbv) (Nat.le_refl _) ?_
  try dsimp only [AExit.then, AExit.block]
  refine AWp.block (AWp.loopInv (ι := Int) (fun z => z = 0) (fun z => 0) [0, 1, 6, 7, 8]
    (fun z => { env := [(0, .d (.list 3 [])), (1, .func f [] bs), (6, .d (.list 3 [])), (7, AI 0), (8, AI 0)], heap := H, n := 19 }) 0 (by cbv) rfl ?_)
  rintro z rfl
  repeat refine AWp.seq ?_
  refine AWp.reg1 {} hT (fun A hA => by
      have f0 := ar_nlt hA h0
      repeat (cbv; simp only [f0])
      cbv) (Nat.le_refl _) ?_
  try dsimp only [AExit.then, AExit.block]
  repeat refine AWp.seq ?_
  refine AWp.cond (b := false) rfl (AWp.exit ?_)
  try dsimp only [AExit.then, AExit.block]
  rw [if_pos rfl]
  repeat refine AWp.seq ?_
  refine AWp.reg1 {} hT (fun A hA => by cbv) (Nat.le_refl _) ?_
  try dsimp only [AExit.then, AExit.block]
  refine AWp.ret ⟨rfl, rfl, hin, Nat.le_refl _, [], by simp⟩
theorem delete98e (f : FuncId) (bs : List AV) (H : List Obj) (hin : objsInb H.length H = true) (hbs : inbL H.length bs = true) (hbf : bs.all AV.free = true) :
    ACall P 86 [.d (.list 3 []), .func f [] bs] H (.d (.list 3 [])) H := by
  have hix := index98e f bs H hin hbs hbf
  refine ACall.enter hT (fn := Try.f86) Try.func86 rfl (by decide) (by simp [Try.f86]) rfl rfl rfl hin (Nat.le_refl _) ?_
  repeat refine AWp.seq ?_
  refine AWp.reg1 {} hT (fun A hA => by cbv) (Nat.le_refl _) ?_
  try dsimp only [AExit.then, AExit.block]
  repeat refine AWp.seq ?_
  refine AWp.region ?_
  refine AOps.stepCallW hT (an := {}) (fun A hA => by cbv) (Nat.le_refl _) (by first | rfl | exact hin) (by first | rfl | simp [inbL, AV.inb, hbs]) rfl (Nat.le_of_ble_eq_true rfl) rfl (by first | rfl | simp [AV.free, hbf]) (hix) ?_
  refine AOps.done hT (an := {}) (fun A hA => by cbv) (Nat.le_refl _) ?_
  try dsimp only [AExit.then, AExit.block]
  repeat refine AWp.seq ?_
  refine AWp.reg1 {} hT (fun A hA => by
      have f0 := ar_eq hA (rfl : (-1 : Int) = -1)
      repeat (cbv; simp only [f0])
      cbv) (Nat.le_refl _) ?_
  try dsimp only [AExit.then, AExit.block]
  repeat refine AWp.seq ?_
  refine AWp.cond (b := true) rfl ?_
  rw [if_pos rfl]
  repeat refine AWp.seq ?_
  refine AWp.reg1 {} hT (fun A hA => by cbv) (Nat.le_refl _) ?_
  try dsimp only [AExit.then, AExit.block]
  refine AWp.ret ⟨rfl, rfl, hin, Nat.le_refl _, [], by simp⟩

theorem scalars_dSta (l : List Sta) : scalars (l.map dSta) = true := by
  simp [scalars, dSta, D.cells, D.scalar]
theorem std_sub0 (Y : List D) (m : Int) (h0 : 0 ≤ m) : Ar.std.sub Y 0 (0 + m) = Y.take m.toNat := by
  simp [Ar.std]

theorem pairs_ok (x : List (List Acc)) (hx : Small x) (hlen : (stations x).length ≤ 4000000000) : ACall P 73 [.d (dX x)] [] (.d (.list 3 ((pairsL x).map dSta))) [] := by
  have cst := stations_ok x hx
  have hcl := fun s L => pairs1_ok x s hx L
  obtain ⟨p, hp⟩ : ∃ p, isPair x = p := ⟨_, rfl⟩
  obtain ⟨l, hl⟩ : ∃ l, stations x = l := ⟨_, rfl⟩
  unfold pairsL
  rw [hl] at cst hlen ⊢
  rw [hp] at hcl ⊢
  obtain ⟨X, hX⟩ : ∃ X, dX x = X := ⟨_, rfl⟩
  rw [hX] at cst hcl ⊢
  have hX2 : ∃ k Z, X = .list k Z := ⟨_, _, by rw [← hX]; rfl⟩
  obtain ⟨kx, Z, rfl⟩ := hX2
  by_cases he : l = []
  · subst he
    have hde := delete98e 116 [.ptr 0 0] [.cells [.d (.list kx Z)]] rfl rfl rfl
    simp only [List.map_nil, List.filter_nil] at cst ⊢
    refine ACall.enter hT (fn := Try.f73) Try.func73 rfl (by decide) (by simp [Try.f73]) rfl rfl rfl rfl (Nat.le_refl _) ?_
    repeat refine AWp.seq ?_
    refine AWp.reg1 {esc := [1]} hT (fun A hA => by cbv) (Nat.zero_le _) ?_
    try dsimp only [AExit.then, AExit.block]
    repeat refine AWp.seq ?_
    refine AWp.region ?_
    refine AOps.stepCall hT (an := {}) (fun A hA => by cbv) (Nat.zero_le _) rfl (.inr rfl) rfl rfl rfl (Nat.le_of_ble_eq_true rfl) rfl rfl (cst) ?_
    refine AOps.stepCallW hT (an := {}) (fun A hA => by cbv) (Nat.zero_le _) (by first | rfl | exact hin) (by first | rfl | simp [inbL, AV.inb, hbs]) rfl (Nat.le_of_ble_eq_true rfl) rfl (by first | rfl | simp [AV.free, hbf]) (hde) ?_
    refine AOps.done hT (an := {}) (fun A hA => by cbv) (Nat.zero_le _) ?_
    try dsimp only [AExit.then, AExit.block]
    refine AWp.ret ⟨rfl, rfl, rfl, Nat.zero_le _, _, rfl⟩
  · obtain ⟨n, hn⟩ : ∃ n : Int, (l.length : Int) = n := ⟨_, rfl⟩
    obtain ⟨m, Y, hm0, hm1, hY, hde⟩ := delete98m l 116 [.ptr 0 0] (.cells [.d (.list kx Z)]) (fun s => !p s) rfl rfl rfl n hn (by omega) (fun s _ L => hcl s L)
    have hY' : Ar.std.sub Y 0 (0 + m) = (l.filter p).map dSta := by
      rw [std_sub0 _ _ hm0, hY]; simp
    have cth := ACall.thaw cst rfl rfl (by simpa using he) (scalars_dSta l) (H := [.cells [.d (.list kx Z)]]) rfl (n := n) (by simpa using hn)
    obtain ⟨L, hL⟩ : ∃ L, l.map dSta = L := ⟨_, rfl⟩
    obtain ⟨R, hR⟩ : ∃ R, (l.filter p).map dSta = R := ⟨_, rfl⟩
    rw [hL] at cth hde
    rw [hR] at hY' ⊢
    refine ACall.enter hT (fn := Try.f73) Try.func73 rfl (by decide) (by simp [Try.f73]) rfl rfl rfl rfl (Nat.le_refl _) ?_
    repeat refine AWp.seq ?_
    refine AWp.reg1 {esc := [1]} hT (fun A hA => by cbv) (Nat.zero_le _) ?_
    try dsimp only [AExit.then, AExit.block]
    repeat refine AWp.seq ?_
    refine AWp.region ?_
    refine AOps.stepCallW hT (an := {}) (fun A hA => by cbv) (Nat.zero_le _) (by first | rfl | exact hin) (by first | rfl | simp [inbL, AV.inb, hbs]) rfl (Nat.le_of_ble_eq_true rfl) rfl (by first | rfl | simp [AV.free, hbf]) (cth) ?_
    refine AOps.stepCallW hT (an := {}) (fun A hA => by cbv) (Nat.zero_le _) (by first | rfl | exact hin) (by first | rfl | simp [inbL, AV.inb, hbs]) rfl (Nat.le_of_ble_eq_true rfl) rfl (by first | rfl | simp [AV.free, hbf]) (hde) ?_
    refine AOps.done hT (an := {}) (fun A hA => by cbv) (Nat.zero_le _) ?_
    try dsimp only [AExit.then, AExit.block]
    refine AWp.freeze (s := 2) (i := 1) (k := 3) (lo := 0) (n := m) (l := Y) (l' := R) rfl rfl (by omega) hY' ?_
    refine AWp.ret ⟨rfl, rfl, rfl, Nat.zero_le _, _, rfl⟩

theorem Pairs_ok (x : List (List Acc)) (hx : Big x) (hsm : valid x = true → Small x ∧ (stations x).length ≤ 4000000000) : ACall P 22 [.d (dX x)] [] (.tuple [.d (.list 3 (if valid x then (pairsL x).map dSta else [])), AI (if valid x then 0 else 90)]) [] := by
  have cv := valid_ok x hx
  cases hv : valid x with
  | false =>
    rw [hv] at cv
    obtain ⟨X, hX⟩ : ∃ X, dX x = X := ⟨_, rfl⟩
    rw [hX] at cv ⊢
    refine ACall.enter hT (fn := Try.f22) Try.func22 rfl (by decide) (by simp [Try.f22]) rfl rfl rfl rfl (Nat.le_refl _) ?_
    repeat refine AWp.seq ?_
    refine AWp.reg1 {} hT (fun A hA => by cbv) (Nat.zero_le _) ?_
    try dsimp only [AExit.then, AExit.block]
    repeat refine AWp.seq ?_
    refine AWp.region ?_
    refine AOps.stepCall hT (an := {}) (fun A hA => by cbv) (Nat.zero_le _) rfl (.inr rfl) rfl rfl rfl (Nat.le_of_ble_eq_true rfl) rfl rfl (cv) ?_
    refine AOps.done hT (an := {}) (fun A hA => by cbv) (Nat.zero_le _) ?_
    try dsimp only [AExit.then, AExit.block]
    repeat refine AWp.seq ?_
    refine AWp.cond (b := true) rfl ?_
    rw [if_pos rfl]
    repeat refine AWp.seq ?_
    refine AWp.reg1 {} hT (fun A hA => by cbv) (Nat.zero_le _) ?_
    try dsimp only [AExit.then, AExit.block]
    repeat refine AWp.seq ?_
    refine AWp.ret ⟨?_, rfl, rfl, Nat.zero_le _, _, rfl⟩
    rfl
  | true =>
    obtain ⟨hs, hlen⟩ := hsm hv
    rw [hv] at cv
    have cp := pairs_ok x hs hlen
    have cpl := plain_ok (pairsL x) (Nat.le_trans (List.length_filter_le _ _) hlen)
    simp only [if_true]
    obtain ⟨X, hX⟩ : ∃ X, dX x = X := ⟨_, rfl⟩
    obtain ⟨R, hR⟩ : ∃ R, (pairsL x).map dSta = R := ⟨_, rfl⟩
    rw [hX] at cv cp ⊢
    rw [hR] at cp cpl ⊢
    refine ACall.enter hT (fn := Try.f22) Try.func22 rfl (by decide) (by simp [Try.f22]) rfl rfl rfl rfl (Nat.le_refl _) ?_
    repeat refine AWp.seq ?_
    refine AWp.reg1 {} hT (fun A hA => by cbv) (Nat.zero_le _) ?_
    try dsimp only [AExit.then, AExit.block]
    repeat refine AWp.seq ?_
    refine AWp.region ?_
    refine AOps.stepCall hT (an := {}) (fun A hA => by cbv) (Nat.zero_le _) rfl (.inr rfl) rfl rfl rfl (Nat.le_of_ble_eq_true rfl) rfl rfl (cv) ?_
    refine AOps.done hT (an := {}) (fun A hA => by cbv) (Nat.zero_le _) ?_
    try dsimp only [AExit.then, AExit.block]
    repeat refine AWp.seq ?_
    refine AWp.cond (b := false) rfl (AWp.skip ?_)
    try dsimp only [AExit.then, AExit.block]
    repeat refine AWp.seq ?_
    refine AWp.region ?_
    refine AOps.stepCall hT (an := {}) (fun A hA => by cbv) (Nat.zero_le _) rfl (.inr rfl) rfl rfl rfl (Nat.le_of_ble_eq_true rfl) rfl rfl (cp) ?_
    refine AOps.stepCall hT (an := {}) (fun A hA => by cbv) (Nat.zero_le _) rfl (.inr rfl) rfl rfl rfl (Nat.le_of_ble_eq_true rfl) rfl rfl (cpl) ?_
    refine AOps.done hT (an := {}) (fun A hA => by cbv) (Nat.zero_le _) ?_
    try dsimp only [AExit.then, AExit.block]
    repeat refine AWp.seq ?_
    refine AWp.ret ⟨?_, rfl, rfl, Nat.zero_le _, _, rfl⟩
    rfl
end Go.Am
