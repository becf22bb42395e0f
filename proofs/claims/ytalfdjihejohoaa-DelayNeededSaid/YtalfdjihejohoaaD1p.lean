/- Own text: D1p. -/
import Derived.Test.YtalfdjihejohoaaD1g
import Derived.Test.YtalfdjihejohoaaD1h
set_option maxRecDepth 100000
set_option linter.unusedVariables false
set_option linter.unusedSimpArgs false
namespace Go.Am
open Go Go.Proofs
theorem ar_zadd0 {A : Ar} (hA : A = Ar.std) (x : Int) : A.zadd 0 x = x := by subst hA; show 0 + x = x; omega

theorem index98m (x : List Sta) (f : FuncId) (bs : List AV) (ob : Obj) (p : Sta → Bool) (hob : ob.inb 2 = true) (hbs : inbL 2 bs = true) (hbf : bs.all AV.free = true) (n : Int) (X : List D) (hX : x.map dSta = X) (hn : (X.length : Int) = n) (hnb : n ≤ 9223372036854775807)
    (hp : ∀ l ∈ x, ACall P f (.d (dSta l) :: bs) [ob, .arr 3 X] (AB (p l)) [ob, .arr 3 X]) : ACall P 122 [.mref 1 3 0 n, .func f [] bs] [ob, .arr 3 X] (AI (match x.findIdx? p with | some i => (i : Int) | none => -1)) [ob, .arr 3 X] := by
  have hin : objsInb 2 [ob, .arr 3 X] = true := by simp only [objsInb, hob]; rfl
  have hxl : (x.length : Int) = n := by rw [← hn, ← hX]; simp
  refine ACall.enter hT (fn := Try.f122) Try.func122 rfl (by decide) (by simp [Try.f122]) rfl rfl rfl hin (Nat.le_refl _) ?_
  repeat refine AWp.seq ?_
  refine AWp.reg1 {} hT (fun A hA => by cbv) (Nat.le_of_ble_eq_true rfl) ?_
  try dsimp only [AExit.then, AExit.block]
  repeat refine AWp.seq ?_
  refine AWp.reg1 {} hT (fun A hA => by cbv) (Nat.le_of_ble_eq_true rfl) ?_
  try dsimp only [AExit.then, AExit.block]
  refine AWp.block (AWp.loopInv (ι := Int) (fun z => 0 ≤ z ∧ z ≤ n ∧ ∀ l ∈ x.take z.toNat, p l = false) (fun z => (n - z).toNat) [0, 1, 6, 7, 8]
    (fun z => { env := [(0, .mref 1 3 0 n), (1, .func f [] bs), (6, .mref 1 3 0 n), (7, AI n), (8, AI z)], heap := [ob, .arr 3 X], n := 19 }) 0 (by cbv) ⟨Int.le_refl _, by omega, by simp⟩ ?_)
  rintro z ⟨h0, h1, h2⟩
  by_cases hz : z < n
  · obtain ⟨L, hL⟩ : ∃ L, x[z.toNat]? = some L := ⟨_, List.getElem?_eq_getElem (by omega)⟩
    have hLm := hp L (List.mem_of_getElem? hL)
    have hXt : X[z.toNat]? = some (dSta L) := by rw [← hX, List.getElem?_map, hL]; rfl
    obtain ⟨b, hb⟩ : ∃ b, p L = b := ⟨_, rfl⟩
    rw [hb] at hLm
    obtain ⟨t, a, c⟩ := L
    unfold dSta at hXt hLm
    dsimp only at hXt hLm
    obtain ⟨z1, hz1⟩ : ∃ z1, z + 1 = z1 := ⟨_, rfl⟩
    repeat refine AWp.seq ?_
    refine AWp.reg1 {} hT (fun A hA => by
        have f0 := ar_lt hA hz
        repeat (cbv; simp only [f0])
        cbv) (Nat.le_of_ble_eq_true rfl) ?_
    try dsimp only [AExit.then, AExit.block]
    repeat refine AWp.seq ?_
    refine AWp.cond (b := true) rfl (AWp.skip ?_)
    try dsimp only [AExit.then, AExit.block]
    repeat refine AWp.seq ?_
    refine AWp.block ?_
    repeat refine AWp.seq ?_
    refine AWp.reg1 {} hT (fun A hA => by cbv) (Nat.le_of_ble_eq_true rfl) ?_
    try dsimp only [AExit.then, AExit.block]
    repeat refine AWp.seq ?_
    refine AWp.region ?_
    refine AOps.stepCallW hT (an := {}) (fun A hA => by
        have f0 := ar_get hA hXt
        have f1 := ar_le hA h0
        have f2 := ar_lt hA hz
        have f3 := ar_zadd0 hA z
        repeat (cbv; simp only [f0, f1, f2, f3])
        cbv) (Nat.le_of_ble_eq_true rfl) (by first | rfl | exact hin) (by first | rfl | simp [inbL, AV.inb, hbs]) rfl (Nat.le_of_ble_eq_true rfl) rfl (by first | rfl | simp [AV.free, hbf]) (hLm) ?_
    refine AOps.done hT (an := {}) (fun A hA => by cbv) (Nat.le_of_ble_eq_true rfl) ?_
    try dsimp only [AExit.then, AExit.block]
    cases b with
    | true =>
      repeat refine AWp.seq ?_
      refine AWp.cond (b := true) rfl ?_
      rw [if_pos rfl]
      repeat refine AWp.seq ?_
      refine AWp.reg1 {} hT (fun A hA => by cbv) (Nat.le_of_ble_eq_true rfl) ?_
      try dsimp only [AExit.then, AExit.block]
      refine AWp.ret ⟨?_, rfl, hin, Nat.le_refl _, [], by simp⟩
      have : x.findIdx? p = some z.toNat := by
        rw [List.findIdx?_eq_some_iff_getElem]
        refine ⟨by omega, ?_, fun j hj => ?_⟩
        · rw [List.getElem?_eq_getElem (by omega)] at hL; injection hL with hL; rw [hL]; exact hb
        · have := h2 x[j] (by rw [List.mem_take_iff_getElem]; exact ⟨j, by omega, rfl⟩)
          simp [this]
      rw [this]
      show _ = some (AI (z.toNat : Int))
      rw [show (z.toNat : Int) = z by omega]
      rfl
    | false =>
      repeat refine AWp.seq ?_
      refine AWp.cond (b := false) rfl (AWp.skip ?_)
      try dsimp only [AExit.then, AExit.block]
      repeat refine AWp.seq ?_
      refine AWp.reg1 {} hT (fun A hA => by
          have f0 := ar_add hA z 1 z1 hz1 (by omega) (by omega)
          repeat (cbv; simp only [f0])
          cbv) (Nat.le_of_ble_eq_true rfl) ?_
      try dsimp only [AExit.then, AExit.block]
      refine ⟨z1, ⟨by omega, by omega, ?_⟩, by omega, by cbv⟩
      intro l hl
      rw [show z1.toNat = z.toNat + 1 by omega, List.take_add_one, hL] at hl
      simp at hl
      rcases hl with hl | rfl
      · exact h2 l hl
      · exact hb
  · repeat refine AWp.seq ?_
    refine AWp.reg1 {} hT (fun A hA => by
        have f0 := ar_nlt hA hz
        repeat (cbv; simp only [f0])
        cbv) (Nat.le_of_ble_eq_true rfl) ?_
    try dsimp only [AExit.then, AExit.block]
    repeat refine AWp.seq ?_
    refine AWp.cond (b := false) rfl (AWp.exit ?_)
    try dsimp only [AExit.then, AExit.block]
    rw [if_pos rfl]
    repeat refine AWp.seq ?_
    refine AWp.reg1 {} hT (fun A hA => by cbv) (Nat.le_of_ble_eq_true rfl) ?_
    try dsimp only [AExit.then, AExit.block]
    refine AWp.ret ⟨?_, rfl, hin, Nat.le_refl _, [], by simp⟩
    have : x.findIdx? p = none := by
      rw [List.findIdx?_eq_none_iff]
      intro y hy
      exact h2 y (by rw [List.take_of_length_le (by omega)]; exact hy)
    rw [this]
    rfl

/-- What is deleted is left out; behind it there are zeros. -/
theorem delete98m (x : List Sta) (f : FuncId) (bs : List AV) (ob : Obj) (p : Sta → Bool) (hob : ob.inb 2 = true) (hbs : inbL 2 bs = true) (hbf : bs.all AV.free = true) (n : Int) (hn : (x.length : Int) = n) (hnb : n ≤ 9223372036854775807)
    (hp : ∀ l ∈ x, ∀ X, ACall P f (.d (dSta l) :: bs) [ob, .arr 3 X] (AB (p l)) [ob, .arr 3 X]) :
    ∃ (m : Int) (Y : List D), 0 ≤ m ∧ m ≤ Y.length ∧ Y.take m.toNat = (x.filter fun s => !p s).map dSta ∧ ACall P 86 [.mref 1 3 0 n, .func f [] bs] [ob, .arr 3 (x.map dSta)] (.mref 1 3 0 m) [ob, .arr 3 Y] := by
  have hinA : ∀ X, objsInb 2 [ob, .arr 3 X] = true := fun X => by simp only [objsInb, hob]; rfl
  have hix := index98m x f bs ob p hob hbs hbf n (x.map dSta) rfl (by simpa using hn) hnb (fun l hl => hp l hl _)
  cases hfi : x.findIdx? p with
  | none =>
    rw [hfi] at hix
    have hall : x.filter (fun s => !p s) = x := by
      rw [List.filter_eq_self]
      rw [List.findIdx?_eq_none_iff] at hfi
      intro a ha; simp [hfi a ha]
    refine ⟨n, x.map dSta, by omega, by simp; omega, by rw [hall, List.take_of_length_le (by simp; omega)], ?_⟩
    obtain ⟨X, hX⟩ : ∃ X, x.map dSta = X := ⟨_, rfl⟩
    rw [hX] at hix ⊢
    have hin := hinA X
    refine ACall.enter hT (fn := Try.f86) Try.func86 rfl (by decide) (by simp [Try.f86]) rfl rfl rfl hin (Nat.le_refl _) ?_
    repeat refine AWp.seq ?_
    refine AWp.reg1 {} hT (fun A hA => by cbv) (Nat.le_of_ble_eq_true rfl) ?_
    try dsimp only [AExit.then, AExit.block]
    repeat refine AWp.seq ?_
    refine AWp.region ?_
    refine AOps.stepCallW hT (an := {}) (fun A hA => by cbv) (Nat.le_of_ble_eq_true rfl) (by first | rfl | exact hin) (by first | rfl | simp [inbL, AV.inb, hbs]) rfl (Nat.le_of_ble_eq_true rfl) rfl (by first | rfl | simp [AV.free, hbf]) (hix) ?_
    refine AOps.done hT (an := {}) (fun A hA => by cbv) (Nat.le_of_ble_eq_true rfl) ?_
    try dsimp only [AExit.then, AExit.block]
    repeat refine AWp.seq ?_
    refine AWp.reg1 {} hT (fun A hA => by
        have f0 := ar_eq hA (rfl : (-1 : Int) = -1)
        repeat (cbv; simp only [f0])
        cbv) (Nat.le_of_ble_eq_true rfl) ?_
    try dsimp only [AExit.then, AExit.block]
    repeat refine AWp.seq ?_
    refine AWp.cond (b := true) rfl ?_
    rw [if_pos rfl]
    repeat refine AWp.seq ?_
    refine AWp.reg1 {} hT (fun A hA => by cbv) (Nat.le_of_ble_eq_true rfl) ?_
    try dsimp only [AExit.then, AExit.block]
    refine AWp.ret ⟨rfl, rfl, hin, Nat.le_refl _, [], by simp⟩
  | some i0 =>
    rw [hfi] at hix
    obtain ⟨hi0, hpi, hbefore⟩ := List.findIdx?_eq_some_iff_getElem.1 hfi
    let q : Sta → Bool := fun s => !p s
    have hq : ∀ s, (!p s) = q s := fun _ => rfl
    have hpq : ∀ s, p s = !q s := fun s => by simp [q]
    -- the list that is left
    refine ⟨((x.filter q).length : Int), (x.filter q).map dSta ++ List.replicate (x.length - (x.filter q).length) (.agg [I 0, I 0, I 0]), by omega, by simp; omega, by simp only [Int.toNat_natCast]; rw [List.take_left' (by simp)], ?_⟩
    obtain ⟨z0, hz0⟩ : ∃ z0 : Int, (i0 : Int) = z0 := ⟨_, rfl⟩
    dsimp only at hix
    rw [hz0] at hix
    obtain ⟨X, hX⟩ : ∃ X, x.map dSta = X := ⟨_, rfl⟩
    obtain ⟨m, hm⟩ : ∃ m : Int, ((x.filter q).length : Int) = m := ⟨_, rfl⟩
    obtain ⟨Y, hY⟩ : ∃ Y, (x.filter q).map dSta ++ List.replicate (x.length - (x.filter q).length) (.agg [I 0, I 0, I 0]) = Y := ⟨_, rfl⟩
    rw [hX] at hix ⊢
    rw [hm, hY]
    have hin := hinA X
    have hinY := hinA Y
    obtain ⟨z1, hz1⟩ : ∃ z1, z0 + 1 = z1 := ⟨_, rfl⟩
    have hne : ¬ z0 = -1 := by omega
    refine ACall.enter hT (fn := Try.f86) Try.func86 rfl (by decide) (by simp [Try.f86]) rfl rfl rfl hin (Nat.le_of_ble_eq_true rfl) ?_
    repeat refine AWp.seq ?_
    refine AWp.reg1 {} hT (fun A hA => by cbv) (Nat.le_of_ble_eq_true rfl) ?_
    try dsimp only [AExit.then, AExit.block]
    repeat refine AWp.seq ?_
    refine AWp.region ?_
    refine AOps.stepCallW hT (an := {}) (fun A hA => by cbv) (Nat.le_of_ble_eq_true rfl) (by first | rfl | exact hin) (by first | rfl | simp [inbL, AV.inb, hbs]) rfl (Nat.le_of_ble_eq_true rfl) rfl (by first | rfl | simp [AV.free, hbf]) (hix) ?_
    refine AOps.done hT (an := {}) (fun A hA => by cbv) (Nat.le_of_ble_eq_true rfl) ?_
    try dsimp only [AExit.then, AExit.block]
    repeat refine AWp.seq ?_
    refine AWp.reg1 {} hT (fun A hA => by
        have f0 := ar_ne hA hne
        repeat (cbv; simp only [f0])
        cbv) (Nat.le_of_ble_eq_true rfl) ?_
    try dsimp only [AExit.then, AExit.block]
    repeat refine AWp.seq ?_
    refine AWp.cond (b := false) rfl (AWp.skip ?_)
    try dsimp only [AExit.then, AExit.block]
    repeat refine AWp.seq ?_
    refine AWp.reg1 {} hT (fun A hA => by
        have f0 := ar_add hA z0 1 z1 hz1 (by omega) (by omega)
        repeat (cbv; simp only [f0])
        cbv) (Nat.le_of_ble_eq_true rfl) ?_
    try dsimp only [AExit.then, AExit.block]
    refine AWp.block (AWp.loopInv (ι := List Sta × List D × Int × Int)
      (fun I => I.1.map dSta = I.2.1 ∧ (I.1.length : Int) = n ∧ 0 ≤ I.2.2.1 ∧ I.2.2.1 < I.2.2.2 ∧ I.2.2.2 ≤ n ∧ I.1.take I.2.2.1.toNat = (x.take I.2.2.2.toNat).filter q ∧ I.1.drop I.2.2.2.toNat = x.drop I.2.2.2.toNat)
      (fun I => (n - I.2.2.2).toNat) [0, 1, 5, 6]
      (fun I => { env := [(0, .mref 1 3 0 n), (1, .func f [] bs), (5, AI I.2.2.1), (6, AI I.2.2.2)], heap := [ob, .arr 3 I.2.1], n := 42 }) (x, X, z0, z1) (by cbv) ⟨hX, hn, by dsimp only; omega, by dsimp only; omega, by dsimp only; omega, ?_, rfl⟩ ?_)
    · dsimp only
      rw [← hz1, ← hz0, show ((i0 : Int) + 1).toNat = i0 + 1 by omega, show ((i0 : Int)).toNat = i0 by omega, List.take_add_one, List.getElem?_eq_getElem hi0, List.filter_append]
      rw [List.filter_eq_self.2 (fun a ha => by
        obtain ⟨j, hj, rfl⟩ := List.mem_take_iff_getElem.1 ha
        have := hbefore j (by omega)
        rw [← hq]; simpa using this)]
      simp [q, hpi]
    · rintro ⟨l, L, i, j⟩ ⟨g1, g2, g3, g4, g5, g6, g7⟩
      dsimp only at g1 g2 g3 g4 g5 g6 g7 ⊢
      have hLl : (L.length : Int) = n := by rw [← g1]; simpa using g2
      by_cases hj : j < n
      · obtain ⟨s, hs⟩ : ∃ s, x[j.toNat]? = some s := ⟨_, List.getElem?_eq_getElem (by omega)⟩
        have hls : l[j.toNat]? = some s := by
          have := congrArg (fun l => l[0]?) g7
          simp only [List.getElem?_drop, Nat.add_zero] at this
          rw [this, hs]
        have hLs : L[j.toNat]? = some (dSta s) := by rw [← g1, List.getElem?_map, hls]; rfl
        have hsm := hp s (List.mem_of_getElem? hs) L
        obtain ⟨b, hb⟩ : ∃ b, p s = b := ⟨_, rfl⟩
        rw [hb] at hsm
        obtain ⟨j1, hj1⟩ : ∃ j1, j + 1 = j1 := ⟨_, rfl⟩
        obtain ⟨i1, hi1⟩ : ∃ i1, i + 1 = i1 := ⟨_, rfl⟩
        obtain ⟨y0, hy0⟩ : ∃ y, L[i.toNat]? = some y := ⟨_, List.getElem?_eq_getElem (by omega)⟩
        obtain ⟨L', hL'⟩ : ∃ L', L.set i.toNat (dSta s) = L' := ⟨_, rfl⟩
        have hset : ∀ A : Ar, A = Ar.std → A.lset L (A.nat i) (dSta s) = L' := fun A hA => by subst hA; exact hL'
        have hlm : L' = (l.set i.toNat s).map dSta := by rw [← hL', ← g1, List.map_set]
        have hin := hinA L
        have hx1 : (x.take j1.toNat).filter q = (x.take j.toNat).filter q ++ [s].filter q := by
          rw [show j1.toNat = j.toNat + 1 by omega, List.take_add_one, hs, List.filter_append]; rfl
        obtain ⟨t, a, c⟩ := s
        unfold dSta at hLs hsm hset
        dsimp only at hLs hsm hset
        repeat refine AWp.seq ?_
        refine AWp.reg1 {} hT (fun A hA => by
            have f0 := ar_lt hA hj
            repeat (cbv; simp only [f0])
            cbv) (Nat.le_of_ble_eq_true rfl) ?_
        try dsimp only [AExit.then, AExit.block]
        repeat refine AWp.seq ?_
        refine AWp.cond (b := true) rfl (AWp.skip ?_)
        try dsimp only [AExit.then, AExit.block]
        repeat refine AWp.seq ?_
        refine AWp.block ?_
        repeat refine AWp.seq ?_
        refine AWp.reg1 {} hT (fun A hA => by
            have f0 := ar_get hA hLs
            have f1 := ar_le hA (show (0:Int) ≤ j by omega)
            have f2 := ar_lt hA hj
            have f3 := ar_zadd0 hA j
            repeat (cbv; simp only [f0, f1, f2, f3])
            cbv) (Nat.le_of_ble_eq_true rfl) ?_
        try dsimp only [AExit.then, AExit.block]
        repeat refine AWp.seq ?_
        refine AWp.region ?_
        refine AOps.stepCallW hT (an := {}) (fun A hA => by cbv) (Nat.le_of_ble_eq_true rfl) (by first | rfl | exact hin) (by first | rfl | simp [inbL, AV.inb, hbs]) rfl (Nat.le_of_ble_eq_true rfl) rfl (by first | rfl | simp [AV.free, hbf]) (hsm) ?_
        refine AOps.done hT (an := {}) (fun A hA => by cbv) (Nat.le_of_ble_eq_true rfl) ?_
        try dsimp only [AExit.then, AExit.block]
        cases b with
        | true =>
          repeat refine AWp.seq ?_
          refine AWp.cond (b := false) rfl (AWp.skip ?_)
          try dsimp only [AExit.then, AExit.block]
          repeat refine AWp.seq ?_
          refine AWp.reg1 {} hT (fun A hA => by
              have f0 := ar_add hA j 1 j1 hj1 (by omega) (by omega)
              repeat (cbv; simp only [f0])
              cbv) (Nat.le_of_ble_eq_true rfl) ?_
          try dsimp only [AExit.then, AExit.block]
          refine ⟨(l, L, i, j1), ⟨g1, g2, g3, by dsimp only; omega, by dsimp only; omega, ?_, ?_⟩, by dsimp only; omega, by cbv⟩
          · dsimp only
            rw [hx1, g6, List.filter_cons, if_neg (by rw [← hq, hb]; decide)]; simp
          · dsimp only
            rw [show j1.toNat = j.toNat + 1 by omega, ← List.drop_drop, g7, List.drop_drop]
        | false =>
          repeat refine AWp.seq ?_
          refine AWp.cond (b := true) rfl ?_
          rw [if_pos rfl]
          repeat refine AWp.seq ?_
          refine AWp.reg1 {} hT (fun A hA => by
              have f0 := ar_get hA hy0
              have f1 := ar_le hA (show (0:Int) ≤ i by omega)
              have f2 := ar_lt hA (show i < n by omega)
              have f3 := ar_zadd0 hA i
              have f4 := hset A hA
              repeat (cbv; simp only [f0, f1, f2, f3, f4])
              cbv) (Nat.le_of_ble_eq_true rfl) ?_
          try dsimp only [AExit.then, AExit.block]
          repeat refine AWp.seq ?_
          refine AWp.reg1 {} hT (fun A hA => by
              have f0 := ar_add hA i 1 i1 hi1 (by omega) (by omega)
              repeat (cbv; simp only [f0])
              cbv) (Nat.le_of_ble_eq_true rfl) ?_
          try dsimp only [AExit.then, AExit.block]
          repeat refine AWp.seq ?_
          refine AWp.reg1 {} hT (fun A hA => by
              have f0 := ar_add hA j 1 j1 hj1 (by omega) (by omega)
              repeat (cbv; simp only [f0])
              cbv) (Nat.le_of_ble_eq_true rfl) ?_
          try dsimp only [AExit.then, AExit.block]
          refine ⟨(l.set i.toNat _, L', i1, j1), ⟨hlm.symm, by simpa using g2, by dsimp only; omega, by dsimp only; omega, by dsimp only; omega, ?_, ?_⟩, by dsimp only; omega, by cbv⟩
          · dsimp only
            have hil : i.toNat < l.length := by omega
            rw [hx1, List.filter_cons, if_pos (by rw [← hq, hb]; decide), ← g6]
            rw [show i1.toNat = i.toNat + 1 by omega, List.take_add_one, List.getElem?_set_self hil, List.take_set_of_le (Nat.le_refl _)]
            simp
          · dsimp only
            rw [List.drop_set_of_lt (by omega), show j1.toNat = j.toNat + 1 by omega, ← List.drop_drop, g7, List.drop_drop]
      · repeat refine AWp.seq ?_
        refine AWp.reg1 {} hT (fun A hA => by
            have f0 := ar_nlt hA hj
            repeat (cbv; simp only [f0])
            cbv) (Nat.le_of_ble_eq_true rfl) ?_
        try dsimp only [AExit.then, AExit.block]
        repeat refine AWp.seq ?_
        refine AWp.cond (b := false) rfl (AWp.exit ?_)
        try dsimp only [AExit.then, AExit.block]
        rw [if_pos rfl]
        have hjn : j = n := by omega
        subst hjn
        rw [List.take_of_length_le (by omega : x.length ≤ j.toNat)] at g6
        have him : i = m := by
          have := congrArg List.length g6
          rw [List.length_take] at this
          omega
        subst him
        obtain ⟨r, hr⟩ : ∃ r, j - i = r := ⟨_, rfl⟩
        have hfill : ∀ A : Ar, A = Ar.std → A.fill L i r (.agg [I 0, I 0, I 0]) = Y := fun A hA => by
          subst hA
          show fillStd L i r _ = Y
          unfold fillStd
          rw [← hY, ← g1, ← List.map_take, g6, List.drop_of_length_le (by simp; omega), List.append_nil]
          congr 2
          omega
        have hsum : ∀ A : Ar, A = Ar.std → A.zadd i r = j := fun A hA => by subst hA; show i + r = j; omega
        have hsub : ∀ A : Ar, A = Ar.std → A.zsub j i = r := fun A hA => by subst hA; exact hr
        have hsub0 : ∀ A : Ar, A = Ar.std → A.zsub i 0 = i := fun A hA => by subst hA; show i - 0 = i; omega
        have hadd0 : ∀ A : Ar, A = Ar.std → A.zadd 0 i = i := fun A hA => by subst hA; show 0 + i = i; omega
        have hadd00 : ∀ A : Ar, A = Ar.std → A.zadd 0 0 = 0 := fun A hA => by subst hA; rfl
        repeat refine AWp.seq ?_
        refine AWp.reg1 {} hT (fun A hA => by
            have f0 := ar_le hA (show (0:Int) ≤ i by omega)
            have f1 := ar_le hA (show i ≤ j by omega)
            have f2 := ar_le hA (Int.le_refl j)
            have f3 := hsub A hA
            have f4 := hadd0 A hA
            have f5 := hsum A hA
            have f6 := ar_len hA L j hLl
            have f7 := hfill A hA
            repeat (cbv; simp only [f0, f1, f2, f3, f4, f5, f6, f7])
            cbv) (Nat.le_of_ble_eq_true rfl) ?_
        try dsimp only [AExit.then, AExit.block]
        repeat refine AWp.seq ?_
        refine AWp.reg1 {} hT (fun A hA => by
            have f0 := ar_le hA (show (0:Int) ≤ i by omega)
            have f1 := ar_le hA (show i ≤ j by omega)
            have f2 := ar_le hA (Int.le_refl (0:Int))
            have f3 := hsub0 A hA
            have f4 := hadd00 A hA
            repeat (cbv; simp only [f0, f1, f2, f3, f4])
            cbv) (Nat.le_of_ble_eq_true rfl) ?_
        try dsimp only [AExit.then, AExit.block]
        refine AWp.ret ⟨rfl, rfl, hinY, Nat.le_refl _, [], by simp⟩

end Go.Am
