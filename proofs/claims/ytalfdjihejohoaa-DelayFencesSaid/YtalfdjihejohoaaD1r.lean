/- Own text: D1p3, D1q, D1r. -/
import Derived.Test.YtalfdjihejohoaaD1p
import Derived.Test.YtalfdjihejohoaaAmList
set_option maxRecDepth 100000
set_option linter.unusedVariables false
set_option linter.unusedSimpArgs false
namespace Go.Am
open Go Go.Proofs

theorem index98m3 (x : List Sta) (f : FuncId) (bs : List AV) (o0 o1 o2 : Obj) (p : Sta → Bool) (hob0 : o0.inb 4 = true) (hob1 : o1.inb 4 = true) (hob2 : o2.inb 4 = true) (hbs : inbL 4 bs = true) (hbf : bs.all AV.free = true) (n : Int) (X tl : List D) (hX : x.map dSta ++ tl = X) (hxl : (x.length : Int) = n) (hnb : n ≤ 9223372036854775807)
    (hp : ∀ l ∈ x, ACall P f (.d (dSta l) :: bs) [o0, o1, o2, .arr 3 X] (AB (p l)) [o0, o1, o2, .arr 3 X]) : ACall P 122 [.mref 3 3 0 n, .func f [] bs] [o0, o1, o2, .arr 3 X] (AI (match x.findIdx? p with | some i => (i : Int) | none => -1)) [o0, o1, o2, .arr 3 X] := by
  have hin : objsInb 4 [o0, o1, o2, .arr 3 X] = true := by simp only [objsInb, hob0, hob1, hob2]; rfl
  refine ACall.enter hT (fn := Try.f122) Try.func122 rfl (by decide) (by simp [Try.f122]) rfl rfl rfl hin (Nat.le_refl _) ?_
  repeat refine AWp.seq ?_
  refine AWp.reg1 {} hT (fun A hA => by cbv) (Nat.le_of_ble_eq_true rfl) ?_
  try dsimp only [AExit.then, AExit.block]
  repeat refine AWp.seq ?_
  refine AWp.reg1 {} hT (fun A hA => by cbv) (Nat.le_of_ble_eq_true rfl) ?_
  try dsimp only [AExit.then, AExit.block]
  refine AWp.block (AWp.loopInv (ι := Int) (fun z => 0 ≤ z ∧ z ≤ n ∧ ∀ l ∈ x.take z.toNat, p l = false) (fun z => (n - z).toNat) [0, 1, 6, 7, 8]
    (fun z => { env := [(0, .mref 3 3 0 n), (1, .func f [] bs), (6, .mref 3 3 0 n), (7, AI n), (8, AI z)], heap := [o0, o1, o2, .arr 3 X], n := 19 }) 0 (by cbv) ⟨Int.le_refl _, by omega, by simp⟩ ?_)
  rintro z ⟨h0, h1, h2⟩
  by_cases hz : z < n
  · obtain ⟨L, hL⟩ : ∃ L, x[z.toNat]? = some L := ⟨_, List.getElem?_eq_getElem (by omega)⟩
    have hLm := hp L (List.mem_of_getElem? hL)
    have hXt : X[z.toNat]? = some (dSta L) := by rw [← hX, List.getElem?_append_left (by simp; omega), List.getElem?_map, hL]; rfl
    obtain ⟨b, hb⟩ : ∃ b, p L = b := ⟨_, rfl⟩
    rw [hb] at hLm
    obtain ⟨t, a, c⟩ := L
    unfold dSta at hXt hLm
    dsimp only at hXt hLm
    obtain ⟨z1, hz1⟩ : ∃ z1, z + 1 = z1 := ⟨_, rfl⟩
    repeat refine AWp.seq ?_
    refine AWp.reg1 {} hT (fun A hA => by
        have f0 := ar_lt hA hz
        repeat (cbv; simp only [f0])
        cbv) (Nat.le_of_ble_eq_true rfl) ?_
    try dsimp only [AExit.then, AExit.block]
    repeat refine AWp.seq ?_
    refine AWp.cond (b := true) rfl (AWp.skip ?_)
    try dsimp only [AExit.then, AExit.block]
    repeat refine AWp.seq ?_
    refine AWp.block ?_
    repeat refine AWp.seq ?_
    refine AWp.reg1 {} hT (fun A hA => by cbv) (Nat.le_of_ble_eq_true rfl) ?_
    try dsimp only [AExit.then, AExit.block]
    repeat refine AWp.seq ?_
    refine AWp.region ?_
    refine AOps.stepCallW hT (an := {}) (fun A hA => by
        have f0 := ar_get hA hXt
        have f1 := ar_le hA h0
        have f2 := ar_lt hA hz
        have f3 := ar_zadd0 hA z
        repeat (cbv; simp only [f0, f1, f2, f3])
        cbv) (Nat.le_of_ble_eq_true rfl) (by first | rfl | exact hin) (by first | rfl | simp [inbL, AV.inb, hbs]) rfl (Nat.le_of_ble_eq_true rfl) rfl (by first | rfl | simp [AV.free, hbf]) (hLm) ?_
    refine AOps.done hT (an := {}) (fun A hA => by cbv) (Nat.le_of_ble_eq_true rfl) ?_
    try dsimp only [AExit.then, AExit.block]
    cases b with
    | true =>
      repeat refine AWp.seq ?_
      refine AWp.cond (b := true) rfl ?_
      rw [if_pos rfl]
      repeat refine AWp.seq ?_
      refine AWp.reg1 {} hT (fun A hA => by cbv) (Nat.le_of_ble_eq_true rfl) ?_
      try dsimp only [AExit.then, AExit.block]
      refine AWp.ret ⟨?_, rfl, hin, Nat.le_refl _, [], by simp⟩
      have : x.findIdx? p = some z.toNat := by
        rw [List.findIdx?_eq_some_iff_getElem]
        refine ⟨by omega, ?_, fun j hj => ?_⟩
        · rw [List.getElem?_eq_getElem (by omega)] at hL; injection hL with hL; rw [hL]; exact hb
        · have := h2 x[j] (by rw [List.mem_take_iff_getElem]; exact ⟨j, by omega, rfl⟩)
          simp [this]
      rw [this]
      show _ = some (AI (z.toNat : Int))
      rw [show (z.toNat : Int) = z by omega]
      rfl
    | false =>
      repeat refine AWp.seq ?_
      refine AWp.cond (b := false) rfl (AWp.skip ?_)
      try dsimp only [AExit.then, AExit.block]
      repeat refine AWp.seq ?_
      refine AWp.reg1 {} hT (fun A hA => by
          have f0 := ar_add hA z 1 z1 hz1 (by omega) (by omega)
          repeat (cbv; simp only [f0])
          cbv) (Nat.le_of_ble_eq_true rfl) ?_
      try dsimp only [AExit.then, AExit.block]
      refine ⟨z1, ⟨by omega, by omega, ?_⟩, by omega, by cbv⟩
      intro l hl
      rw [show z1.toNat = z.toNat + 1 by omega, List.take_add_one, hL] at hl
      simp at hl
      rcases hl with hl | rfl
      · exact h2 l hl
      · exact hb
  · repeat refine AWp.seq ?_
    refine AWp.reg1 {} hT (fun A hA => by
        have f0 := ar_nlt hA hz
        repeat (cbv; simp only [f0])
        cbv) (Nat.le_of_ble_eq_true rfl) ?_
    try dsimp only [AExit.then, AExit.block]
    repeat refine AWp.seq ?_
    refine AWp.cond (b := false) rfl (AWp.exit ?_)
    try dsimp only [AExit.then, AExit.block]
    rw [if_pos rfl]
    repeat refine AWp.seq ?_
    refine AWp.reg1 {} hT (fun A hA => by cbv) (Nat.le_of_ble_eq_true rfl) ?_
    try dsimp only [AExit.then, AExit.block]
    refine AWp.ret ⟨?_, rfl, hin, Nat.le_refl _, [], by simp⟩
    have : x.findIdx? p = none := by
      rw [List.findIdx?_eq_none_iff]
      intro y hy
      exact h2 y (by rw [List.take_of_length_le (by omega)]; exact hy)
    rw [this]
    rfl

/-- What is deleted is left out; behind it there are zeros. -/
theorem delete98m3 (x : List Sta) (f : FuncId) (bs : List AV) (o0 o1 o2 : Obj) (p : Sta → Bool) (hob0 : o0.inb 4 = true) (hob1 : o1.inb 4 = true) (hob2 : o2.inb 4 = true) (hbs : inbL 4 bs = true) (hbf : bs.all AV.free = true) (n : Int) (hn : (x.length : Int) = n) (hnb : n ≤ 9223372036854775807) (tl : List D)
    (hp : ∀ l ∈ x, ∀ X, ACall P f (.d (dSta l) :: bs) [o0, o1, o2, .arr 3 X] (AB (p l)) [o0, o1, o2, .arr 3 X]) :
    ∃ (m : Int) (Y : List D), 0 ≤ m ∧ m ≤ Y.length ∧ Y.take m.toNat = (x.filter fun s => !p s).map dSta ∧ ACall P 86 [.mref 3 3 0 n, .func f [] bs] [o0, o1, o2, .arr 3 (x.map dSta ++ tl)] (.mref 3 3 0 m) [o0, o1, o2, .arr 3 Y] := by
  have hinA : ∀ X, objsInb 4 [o0, o1, o2, .arr 3 X] = true := fun X => by simp only [objsInb, hob0, hob1, hob2]; rfl
  have hix := index98m3 x f bs o0 o1 o2 p hob0 hob1 hob2 hbs hbf n (x.map dSta ++ tl) tl rfl hn hnb (fun l hl => hp l hl _)
  cases hfi : x.findIdx? p with
  | none =>
    rw [hfi] at hix
    have hall : x.filter (fun s => !p s) = x := by
      rw [List.filter_eq_self]
      rw [List.findIdx?_eq_none_iff] at hfi
      intro a ha; simp [hfi a ha]
    refine ⟨n, x.map dSta ++ tl, by omega, by simp; omega, by rw [hall, List.take_left' (by simp; omega)], ?_⟩
    obtain ⟨X, hX⟩ : ∃ X, x.map dSta ++ tl = X := ⟨_, rfl⟩
    rw [hX] at hix ⊢
    have hin := hinA X
    refine ACall.enter hT (fn := Try.f86) Try.func86 rfl (by decide) (by simp [Try.f86]) rfl rfl rfl hin (Nat.le_refl _) ?_
    repeat refine AWp.seq ?_
    refine AWp.reg1 {} hT (fun A hA => by cbv) (Nat.le_of_ble_eq_true rfl) ?_
    try dsimp only [AExit.then, AExit.block]
    repeat refine AWp.seq ?_
    refine AWp.region ?_
    refine AOps.stepCallW hT (an := {}) (fun A hA => by cbv) (Nat.le_of_ble_eq_true rfl) (by first | rfl | exact hin) (by first | rfl | simp [inbL, AV.inb, hbs]) rfl (Nat.le_of_ble_eq_true rfl) rfl (by first | rfl | simp [AV.free, hbf]) (hix) ?_
    refine AOps.done hT (an := {}) (fun A hA => by cbv) (Nat.le_of_ble_eq_true rfl) ?_
    try dsimp only [AExit.then, AExit.block]
    repeat refine AWp.seq ?_
    refine AWp.reg1 {} hT (fun A hA => by
        have f0 := ar_eq hA (rfl : (-1 : Int) = -1)
        repeat (cbv; simp only [f0])
        cbv) (Nat.le_of_ble_eq_true rfl) ?_
    try dsimp only [AExit.then, AExit.block]
    repeat refine AWp.seq ?_
    refine AWp.cond (b := true) rfl ?_
    rw [if_pos rfl]
    repeat refine AWp.seq ?_
    refine AWp.reg1 {} hT (fun A hA => by cbv) (Nat.le_of_ble_eq_true rfl) ?_
    try dsimp only [AExit.then, AExit.block]
    refine AWp.ret ⟨rfl, rfl, hin, Nat.le_refl _, [], by simp⟩
  | some i0 =>
    rw [hfi] at hix
    obtain ⟨hi0, hpi, hbefore⟩ := List.findIdx?_eq_some_iff_getElem.1 hfi
    let q : Sta → Bool := fun s => !p s
    have hq : ∀ s, (!p s) = q s := fun _ => rfl
    have hpq : ∀ s, p s = !q s := fun s => by simp [q]
    -- the list that is left
    refine ⟨((x.filter q).length : Int), (x.filter q).map dSta ++ (List.replicate (x.length - (x.filter q).length) (.agg [I 0, I 0, I 0]) ++ tl), by omega, by simp; omega, by simp only [Int.toNat_natCast]; rw [List.take_left' (by simp)], ?_⟩
    obtain ⟨z0, hz0⟩ : ∃ z0 : Int, (i0 : Int) = z0 := ⟨_, rfl⟩
    dsimp only at hix
    rw [hz0] at hix
    obtain ⟨X, hX⟩ : ∃ X, x.map dSta ++ tl = X := ⟨_, rfl⟩
    obtain ⟨m, hm⟩ : ∃ m : Int, ((x.filter q).length : Int) = m := ⟨_, rfl⟩
    obtain ⟨Y, hY⟩ : ∃ Y, (x.filter q).map dSta ++ (List.replicate (x.length - (x.filter q).length) (.agg [I 0, I 0, I 0]) ++ tl) = Y := ⟨_, rfl⟩
    rw [hX] at hix ⊢
    rw [hm, hY]
    have hin := hinA X
    have hinY := hinA Y
    obtain ⟨z1, hz1⟩ : ∃ z1, z0 + 1 = z1 := ⟨_, rfl⟩
    have hne : ¬ z0 = -1 := by omega
    refine ACall.enter hT (fn := Try.f86) Try.func86 rfl (by decide) (by simp [Try.f86]) rfl rfl rfl hin (Nat.le_of_ble_eq_true rfl) ?_
    repeat refine AWp.seq ?_
    refine AWp.reg1 {} hT (fun A hA => by cbv) (Nat.le_of_ble_eq_true rfl) ?_
    try dsimp only [AExit.then, AExit.block]
    repeat refine AWp.seq ?_
    refine AWp.region ?_
    refine AOps.stepCallW hT (an := {}) (fun A hA => by cbv) (Nat.le_of_ble_eq_true rfl) (by first | rfl | exact hin) (by first | rfl | simp [inbL, AV.inb, hbs]) rfl (Nat.le_of_ble_eq_true rfl) rfl (by first | rfl | simp [AV.free, hbf]) (hix) ?_
    refine AOps.done hT (an := {}) (fun A hA => by cbv) (Nat.le_of_ble_eq_true rfl) ?_
    try dsimp only [AExit.then, AExit.block]
    repeat refine AWp.seq ?_
    refine AWp.reg1 {} hT (fun A hA => by
        have f0 := ar_ne hA hne
        repeat (cbv; simp only [f0])
        cbv) (Nat.le_of_ble_eq_true rfl) ?_
    try dsimp only [AExit.then, AExit.block]
    repeat refine AWp.seq ?_
    refine AWp.cond (b := false) rfl (AWp.skip ?_)
    try dsimp only [AExit.then, AExit.block]
    repeat refine AWp.seq ?_
    refine AWp.reg1 {} hT (fun A hA => by
        have f0 := ar_add hA z0 1 z1 hz1 (by omega) (by omega)
        repeat (cbv; simp only [f0])
        cbv) (Nat.le_of_ble_eq_true rfl) ?_
    try dsimp only [AExit.then, AExit.block]
    refine AWp.block (AWp.loopInv (ι := List Sta × List D × Int × Int)
      (fun I => I.1.map dSta ++ tl = I.2.1 ∧ (I.1.length : Int) = n ∧ 0 ≤ I.2.2.1 ∧ I.2.2.1 < I.2.2.2 ∧ I.2.2.2 ≤ n ∧ I.1.take I.2.2.1.toNat = (x.take I.2.2.2.toNat).filter q ∧ I.1.drop I.2.2.2.toNat = x.drop I.2.2.2.toNat)
      (fun I => (n - I.2.2.2).toNat) [0, 1, 5, 6]
      (fun I => { env := [(0, .mref 3 3 0 n), (1, .func f [] bs), (5, AI I.2.2.1), (6, AI I.2.2.2)], heap := [o0, o1, o2, .arr 3 I.2.1], n := 42 }) (x, X, z0, z1) (by cbv) ⟨hX, hn, by dsimp only; omega, by dsimp only; omega, by dsimp only; omega, ?_, rfl⟩ ?_)
    · dsimp only
      rw [← hz1, ← hz0, show ((i0 : Int) + 1).toNat = i0 + 1 by omega, show ((i0 : Int)).toNat = i0 by omega, List.take_add_one, List.getElem?_eq_getElem hi0, List.filter_append]
      rw [List.filter_eq_self.2 (fun a ha => by
        obtain ⟨j, hj, rfl⟩ := List.mem_take_iff_getElem.1 ha
        have := hbefore j (by omega)
        rw [← hq]; simpa using this)]
      simp [q, hpi]
    · rintro ⟨l, L, i, j⟩ ⟨g1, g2, g3, g4, g5, g6, g7⟩
      dsimp only at g1 g2 g3 g4 g5 g6 g7 ⊢
      obtain ⟨NL, hLl⟩ : ∃ NL : Int, (L.length : Int) = NL := ⟨_, rfl⟩
      have hNL : n ≤ NL := by rw [← hLl, ← g1]; simp; omega
      by_cases hj : j < n
      · obtain ⟨s, hs⟩ : ∃ s, x[j.toNat]? = some s := ⟨_, List.getElem?_eq_getElem (by omega)⟩
        have hls : l[j.toNat]? = some s := by
          have := congrArg (fun l => l[0]?) g7
          simp only [List.getElem?_drop, Nat.add_zero] at this
          rw [this, hs]
        have hLs : L[j.toNat]? = some (dSta s) := by rw [← g1, List.getElem?_append_left (by simp; omega), List.getElem?_map, hls]; rfl
        have hsm := hp s (List.mem_of_getElem? hs) L
        obtain ⟨b, hb⟩ : ∃ b, p s = b := ⟨_, rfl⟩
        rw [hb] at hsm
        obtain ⟨j1, hj1⟩ : ∃ j1, j + 1 = j1 := ⟨_, rfl⟩
        obtain ⟨i1, hi1⟩ : ∃ i1, i + 1 = i1 := ⟨_, rfl⟩
        obtain ⟨y0, hy0⟩ : ∃ y, L[i.toNat]? = some y := ⟨_, List.getElem?_eq_getElem (by omega)⟩
        obtain ⟨L', hL'⟩ : ∃ L', L.set i.toNat (dSta s) = L' := ⟨_, rfl⟩
        have hset : ∀ A : Ar, A = Ar.std → A.lset L (A.nat i) (dSta s) = L' := fun A hA => by subst hA; exact hL'
        have hlm : L' = (l.set i.toNat s).map dSta ++ tl := by rw [← hL', ← g1, List.map_set, List.set_append_left _ _ (by simp; omega)]
        have hin := hinA L
        have hx1 : (x.take j1.toNat).filter q = (x.take j.toNat).filter q ++ [s].filter q := by
          rw [show j1.toNat = j.toNat + 1 by omega, List.take_add_one, hs, List.filter_append]; rfl
        obtain ⟨t, a, c⟩ := s
        unfold dSta at hLs hsm hset
        dsimp only at hLs hsm hset
        repeat refine AWp.seq ?_
        refine AWp.reg1 {} hT (fun A hA => by
            have f0 := ar_lt hA hj
            repeat (cbv; simp only [f0])
            cbv) (Nat.le_of_ble_eq_true rfl) ?_
        try dsimp only [AExit.then, AExit.block]
        repeat refine AWp.seq ?_
        refine AWp.cond (b := true) rfl (AWp.skip ?_)
        try dsimp only [AExit.then, AExit.block]
        repeat refine AWp.seq ?_
        refine AWp.block ?_
        repeat refine AWp.seq ?_
        refine AWp.reg1 {} hT (fun A hA => by
            have f0 := ar_get hA hLs
            have f1 := ar_le hA (show (0:Int) ≤ j by omega)
            have f2 := ar_lt hA hj
            have f3 := ar_zadd0 hA j
            repeat (cbv; simp only [f0, f1, f2, f3])
            cbv) (Nat.le_of_ble_eq_true rfl) ?_
        try dsimp only [AExit.then, AExit.block]
        repeat refine AWp.seq ?_
        refine AWp.region ?_
        refine AOps.stepCallW hT (an := {}) (fun A hA => by cbv) (Nat.le_of_ble_eq_true rfl) (by first | rfl | exact hin) (by first | rfl | simp [inbL, AV.inb, hbs]) rfl (Nat.le_of_ble_eq_true rfl) rfl (by first | rfl | simp [AV.free, hbf]) (hsm) ?_
        refine AOps.done hT (an := {}) (fun A hA => by cbv) (Nat.le_of_ble_eq_true rfl) ?_
        try dsimp only [AExit.then, AExit.block]
        cases b with
        | true =>
          repeat refine AWp.seq ?_
          refine AWp.cond (b := false) rfl (AWp.skip ?_)
          try dsimp only [AExit.then, AExit.block]
          repeat refine AWp.seq ?_
          refine AWp.reg1 {} hT (fun A hA => by
              have f0 := ar_add hA j 1 j1 hj1 (by omega) (by omega)
              repeat (cbv; simp only [f0])
              cbv) (Nat.le_of_ble_eq_true rfl) ?_
          try dsimp only [AExit.then, AExit.block]
          refine ⟨(l, L, i, j1), ⟨g1, g2, g3, by dsimp only; omega, by dsimp only; omega, ?_, ?_⟩, by dsimp only; omega, by cbv⟩
          · dsimp only
            rw [hx1, g6, List.filter_cons, if_neg (by rw [← hq, hb]; decide)]; simp
          · dsimp only
            rw [show j1.toNat = j.toNat + 1 by omega, ← List.drop_drop, g7, List.drop_drop]
        | false =>
          repeat refine AWp.seq ?_
          refine AWp.cond (b := true) rfl ?_
          rw [if_pos rfl]
          repeat refine AWp.seq ?_
          refine AWp.reg1 {} hT (fun A hA => by
              have f0 := ar_get hA hy0
              have f1 := ar_le hA (show (0:Int) ≤ i by omega)
              have f2 := ar_lt hA (show i < n by omega)
              have f3 := ar_zadd0 hA i
              have f4 := hset A hA
              repeat (cbv; simp only [f0, f1, f2, f3, f4])
              cbv) (Nat.le_of_ble_eq_true rfl) ?_
          try dsimp only [AExit.then, AExit.block]
          repeat refine AWp.seq ?_
          refine AWp.reg1 {} hT (fun A hA => by
              have f0 := ar_add hA i 1 i1 hi1 (by omega) (by omega)
              repeat (cbv; simp only [f0])
              cbv) (Nat.le_of_ble_eq_true rfl) ?_
          try dsimp only [AExit.then, AExit.block]
          repeat refine AWp.seq ?_
          refine AWp.reg1 {} hT (fun A hA => by
              have f0 := ar_add hA j 1 j1 hj1 (by omega) (by omega)
              repeat (cbv; simp only [f0])
              cbv) (Nat.le_of_ble_eq_true rfl) ?_
          try dsimp only [AExit.then, AExit.block]
          refine ⟨(l.set i.toNat _, L', i1, j1), ⟨hlm.symm, by simpa using g2, by dsimp only; omega, by dsimp only; omega, by dsimp only; omega, ?_, ?_⟩, by dsimp only; omega, by cbv⟩
          · dsimp only
            have hil : i.toNat < l.length := by omega
            rw [hx1, List.filter_cons, if_pos (by rw [← hq, hb]; decide), ← g6]
            rw [show i1.toNat = i.toNat + 1 by omega, List.take_add_one, List.getElem?_set_self hil, List.take_set_of_le (Nat.le_refl _)]
            simp
          · dsimp only
            rw [List.drop_set_of_lt (by omega), show j1.toNat = j.toNat + 1 by omega, ← List.drop_drop, g7, List.drop_drop]
      · repeat refine AWp.seq ?_
        refine AWp.reg1 {} hT (fun A hA => by
            have f0 := ar_nlt hA hj
            repeat (cbv; simp only [f0])
            cbv) (Nat.le_of_ble_eq_true rfl) ?_
        try dsimp only [AExit.then, AExit.block]
        repeat refine AWp.seq ?_
        refine AWp.cond (b := false) rfl (AWp.exit ?_)
        try dsimp only [AExit.then, AExit.block]
        rw [if_pos rfl]
        have hjn : j = n := by omega
        subst hjn
        rw [List.take_of_length_le (by omega : x.length ≤ j.toNat)] at g6
        have him : i = m := by
          have := congrArg List.length g6
          rw [List.length_take] at this
          omega
        subst him
        obtain ⟨r, hr⟩ : ∃ r, j - i = r := ⟨_, rfl⟩
        have hfill : ∀ A : Ar, A = Ar.std → A.fill L i r (.agg [I 0, I 0, I 0]) = Y := fun A hA => by
          subst hA
          show fillStd L i r _ = Y
          unfold fillStd
          rw [← hY, ← g1, List.take_append_of_le_length (by simp; omega), ← List.map_take, g6, List.drop_left' (by simp; omega), List.append_assoc]
          congr 3
          omega
        have hsum : ∀ A : Ar, A = Ar.std → A.zadd i r = j := fun A hA => by subst hA; show i + r = j; omega
        have hsub : ∀ A : Ar, A = Ar.std → A.zsub j i = r := fun A hA => by subst hA; exact hr
        have hsub0 : ∀ A : Ar, A = Ar.std → A.zsub i 0 = i := fun A hA => by subst hA; show i - 0 = i; omega
        have hadd0 : ∀ A : Ar, A = Ar.std → A.zadd 0 i = i := fun A hA => by subst hA; show 0 + i = i; omega
        have hadd00 : ∀ A : Ar, A = Ar.std → A.zadd 0 0 = 0 := fun A hA => by subst hA; rfl
        repeat refine AWp.seq ?_
        refine AWp.reg1 {} hT (fun A hA => by
            have f0 := ar_le hA (show (0:Int) ≤ i by omega)
            have f1 := ar_le hA (show i ≤ j by omega)
            have f2 := ar_le hA (Int.le_refl j)
            have f3 := hsub A hA
            have f4 := hadd0 A hA
            have f5 := hsum A hA
            have f6 := ar_len hA L NL hLl
            have f7 := ar_le hA hNL
            have f8 := hfill A hA
            repeat (cbv; simp only [f0, f1, f2, f3, f4, f5, f6, f7, f8])
            cbv) (Nat.le_of_ble_eq_true rfl) ?_
        try dsimp only [AExit.then, AExit.block]
        repeat refine AWp.seq ?_
        refine AWp.reg1 {} hT (fun A hA => by
            have f0 := ar_le hA (show (0:Int) ≤ i by omega)
            have f1 := ar_le hA (show i ≤ j by omega)
            have f2 := ar_le hA (Int.le_refl (0:Int))
            have f3 := hsub0 A hA
            have f4 := hadd00 A hA
            repeat (cbv; simp only [f0, f1, f2, f3, f4])
            cbv) (Nat.le_of_ble_eq_true rfl) ?_
        try dsimp only [AExit.then, AExit.block]
        refine AWp.ret ⟨rfl, rfl, hinY, Nat.le_refl _, [], by simp⟩

end Go.Am

set_option maxRecDepth 100000
set_option linter.unusedVariables false
set_option linter.unusedSimpArgs false
namespace Go.Am
open Go Go.Proofs

def sumN (f : Nat → Nat) : Nat → Nat
  | 0 => 0
  | n + 1 => sumN f n + f n
theorem sumN_le (f : Nat → Nat) (B : Nat) : ∀ n, (∀ i, i < n → f i ≤ B) → sumN f n ≤ n * B
  | 0, _ => by simp [sumN]
  | n + 1, h => by
    have h1 := sumN_le f B n (fun i hi => h i (by omega))
    have h2 := h n (by omega)
    simp only [sumN]
    rw [Nat.succ_mul]
    omega

theorem isAccess_ok (x : List (List Acc)) (t a : Int) (hx : Small x) : ACall P 65 [.d (dX x), AI t, AI a] [] (AB (there x t a)) [] := by
  unfold dX
  obtain ⟨X, hX⟩ : ∃ X, x.map dAccs = X := ⟨_, rfl⟩
  obtain ⟨n, hn⟩ : ∃ n : Int, (X.length : Int) = n := ⟨_, rfl⟩
  have hxl : (x.length : Int) = n := by rw [← hn, ← hX]; simp
  rw [hX]
  have hs := hx.1
  refine ACall.enter hT (fn := Try.f65) Try.func65 rfl (by decide) (by simp [Try.f65]) rfl rfl rfl rfl (Nat.le_refl _) ?_
  repeat refine AWp.seq ?_
  refine AWp.reg1 {} hT (fun A hA => by cbv) (Nat.zero_le _) ?_
  try dsimp only [AExit.then, AExit.block]
  by_cases h0 : 0 ≤ t
  · by_cases h1 : t < n
    · obtain ⟨L, hL⟩ : ∃ L, x[t.toNat]? = some L := ⟨_, List.getElem?_eq_getElem (by omega)⟩
      obtain ⟨L', hL'⟩ : ∃ L', L.map dAcc = L' := ⟨_, rfl⟩
      obtain ⟨k, hk⟩ : ∃ n : Int, (L'.length : Int) = n := ⟨_, rfl⟩
      have hkL : (L.length : Int) = k := by rw [← hk, ← hL']; simp
      have hXt : X[t.toNat]? = some (.list 2 L') := by rw [← hX, List.getElem?_map, hL, ← hL']; rfl
      have hth : there x t a = (decide (0 ≤ a) && decide (a < k)) := by
        unfold there; rw [hL]; simp [h0, hkL]
      rw [hth]
      by_cases g0 : 0 ≤ a
      · by_cases g1 : a < k
        · repeat refine AWp.seq ?_
          refine AWp.reg1 {} hT (fun A hA => by
              have f0 := ar_len hA X n hn
              have f1 := ar_le hA h0
              have f2 := ar_lt hA h1
              have f3 := ar_le hA g0
              have f4 := ar_get hA hXt
              have f5 := ar_len hA L' k hk
              have f6 := ar_lt hA g1
              repeat (cbv; simp only [f0, f1, f2, f3, f4, f5, f6])
              cbv) (Nat.zero_le _) ?_
          try dsimp only [AExit.then, AExit.block]
          repeat refine AWp.seq ?_
          refine AWp.ret ⟨?_, rfl, rfl, Nat.zero_le _, _, rfl⟩
          simp [g0, g1]; rfl
        · repeat refine AWp.seq ?_
          refine AWp.reg1 {} hT (fun A hA => by
              have f0 := ar_len hA X n hn
              have f1 := ar_le hA h0
              have f2 := ar_lt hA h1
              have f3 := ar_le hA g0
              have f4 := ar_get hA hXt
              have f5 := ar_len hA L' k hk
              have f6 := ar_nlt hA g1
              repeat (cbv; simp only [f0, f1, f2, f3, f4, f5, f6])
              cbv) (Nat.zero_le _) ?_
          try dsimp only [AExit.then, AExit.block]
          repeat refine AWp.seq ?_
          refine AWp.ret ⟨?_, rfl, rfl, Nat.zero_le _, _, rfl⟩
          simp [g0, g1]; rfl
      · repeat refine AWp.seq ?_
        refine AWp.reg1 {} hT (fun A hA => by
            have f0 := ar_len hA X n hn
            have f1 := ar_le hA h0
            have f2 := ar_lt hA h1
            have f3 := ar_nle hA g0
            repeat (cbv; simp only [f0, f1, f2, f3])
            cbv) (Nat.zero_le _) ?_
        try dsimp only [AExit.then, AExit.block]
        repeat refine AWp.seq ?_
        refine AWp.ret ⟨?_, rfl, rfl, Nat.zero_le _, _, rfl⟩
        simp [g0]; rfl
    · have hth : there x t a = false := by
        unfold there; rw [List.getElem?_eq_none (by omega)]; simp
      rw [hth]
      repeat refine AWp.seq ?_
      refine AWp.reg1 {} hT (fun A hA => by
          have f0 := ar_len hA X n hn
          have f1 := ar_le hA h0
          have f2 := ar_nlt hA h1
          repeat (cbv; simp only [f0, f1, f2])
          cbv) (Nat.zero_le _) ?_
      try dsimp only [AExit.then, AExit.block]
      repeat refine AWp.seq ?_
      refine AWp.ret ⟨?_, rfl, rfl, Nat.zero_le _, _, rfl⟩
      rfl
  · have hth : there x t a = false := by
      unfold there; simp [h0]
    rw [hth]
    repeat refine AWp.seq ?_
    refine AWp.reg1 {} hT (fun A hA => by
        have f0 := ar_nle hA h0
        repeat (cbv; simp only [f0])
        cbv) (Nat.zero_le _) ?_
    try dsimp only [AExit.then, AExit.block]
    repeat refine AWp.seq ?_
    refine AWp.ret ⟨?_, rfl, rfl, Nat.zero_le _, _, rfl⟩
    rfl

theorem there_at {x : List (List Acc)} {t a : Int} (h : there x t a = true) : 0 ≤ t ∧ 0 ≤ a ∧ ∃ L', (x.map dAccs)[t.toNat]? = some (.list 2 L') ∧ L'[a.toNat]? = some (.agg [I (acc x t a).1, .bool (acc x t a).2]) := by
  obtain ⟨h0, h1, L, h2, h3⟩ := there_get h
  exact ⟨h0, h1, L.map dAcc, by rw [List.getElem?_map, h2]; rfl, by rw [List.getElem?_map, h3]; rfl⟩

theorem conflictR_ok (x : List (List Acc)) (t a u b : Int) (h : there x t a = true) (h' : there x u b = true) :
    ACall P 66 [.d (dX x), AI t, AI a, AI u, AI b] [] (AB (conflict x t a u b)) [] := by
  obtain ⟨h0, h1, L, h2, h3⟩ := there_at h
  obtain ⟨g0, g1, M, g2, g3⟩ := there_at h'
  unfold conflict dX
  obtain ⟨X, hX⟩ : ∃ X, x.map dAccs = X := ⟨_, rfl⟩
  rw [hX] at h2 g2 ⊢
  obtain ⟨v, hv⟩ : ∃ v, (acc x t a).1 = v := ⟨_, rfl⟩
  obtain ⟨v', hv'⟩ : ∃ v, (acc x u b).1 = v := ⟨_, rfl⟩
  obtain ⟨p, hp⟩ : ∃ v, (acc x t a).2 = v := ⟨_, rfl⟩
  obtain ⟨p', hp'⟩ : ∃ v, (acc x u b).2 = v := ⟨_, rfl⟩
  rw [hv, hp] at h3 ⊢
  rw [hv', hp'] at g3 ⊢
  refine ACall.enter hT (fn := Try.f66) Try.func66 rfl (by decide) (by simp [Try.f66]) rfl rfl rfl rfl (Nat.le_refl _) ?_
  repeat refine AWp.seq ?_
  refine AWp.reg1 {} hT (fun A hA => by cbv) (Nat.zero_le _) ?_
  try dsimp only [AExit.then, AExit.block]
  by_cases e1 : t = u
  · repeat refine AWp.seq ?_
    refine AWp.reg1D {} hT rfl (fun A hA => by
        have f0 := ar_eq hA e1
        repeat (cbv; simp only [f0])
        cbv) (by kernel_rfl) (Nat.zero_le _) ?_
    try dsimp only [AExit.then, AExit.block]
    repeat refine AWp.seq ?_
    refine AWp.ret ⟨?_, rfl, rfl, Nat.zero_le _, _, rfl⟩
    simp [e1]; rfl
  · by_cases e2 : v = v'
    · cases p with
      | true =>
        repeat refine AWp.seq ?_
        refine AWp.reg1D {} hT rfl (fun A hA => by
            have f0 := ar_ne hA e1
            have f1 := ar_le hA h0
            have f2 := ar_get hA h2
            have f3 := ar_le hA h1
            have f4 := ar_get hA h3
            have f5 := ar_le hA g0
            have f6 := ar_get hA g2
            have f7 := ar_le hA g1
            have f8 := ar_get hA g3
            have f9 := ar_eq hA e2
            repeat (cbv; simp only [f0, f1, f2, f3, f4, f5, f6, f7, f8, f9])
            cbv) (by kernel_rfl) (Nat.zero_le _) ?_
        try dsimp only [AExit.then, AExit.block]
        repeat refine AWp.seq ?_
        refine AWp.ret ⟨?_, rfl, rfl, Nat.zero_le _, _, rfl⟩
        simp [e1, e2]; rfl
      | false =>
        repeat refine AWp.seq ?_
        refine AWp.reg1D {} hT rfl (fun A hA => by
            have f0 := ar_ne hA e1
            have f1 := ar_le hA h0
            have f2 := ar_get hA h2
            have f3 := ar_le hA h1
            have f4 := ar_get hA h3
            have f5 := ar_le hA g0
            have f6 := ar_get hA g2
            have f7 := ar_le hA g1
            have f8 := ar_get hA g3
            have f9 := ar_eq hA e2
            repeat (cbv; simp only [f0, f1, f2, f3, f4, f5, f6, f7, f8, f9])
            cbv) (by kernel_rfl) (Nat.zero_le _) ?_
        try dsimp only [AExit.then, AExit.block]
        repeat refine AWp.seq ?_
        refine AWp.ret ⟨?_, rfl, rfl, Nat.zero_le _, _, rfl⟩
        simp [e1, e2]; rfl
    · repeat refine AWp.seq ?_
      refine AWp.reg1D {} hT rfl (fun A hA => by
          have f0 := ar_ne hA e1
          have f1 := ar_le hA h0
          have f2 := ar_get hA h2
          have f3 := ar_le hA h1
          have f4 := ar_get hA h3
          have f5 := ar_le hA g0
          have f6 := ar_get hA g2
          have f7 := ar_le hA g1
          have f8 := ar_get hA g3
          have f9 := ar_ne hA e2
          repeat (cbv; simp only [f0, f1, f2, f3, f4, f5, f6, f7, f8, f9])
          cbv) (by kernel_rfl) (Nat.zero_le _) ?_
      try dsimp only [AExit.then, AExit.block]
      repeat refine AWp.seq ?_
      refine AWp.ret ⟨?_, rfl, rfl, Nat.zero_le _, _, rfl⟩
      simp [e1, e2]; rfl

theorem isPairR_ok (x : List (List Acc)) (t a b : Int) (hx : Small x) : ACall P 34 [.d (dX x), .d (.agg [I t, I a, I b])] [] (AB (isPair x (t, a, b))) [] := by
  have c1 := isAccess_ok x t a hx
  have c2 := isAccess_ok x t b hx
  have hI : isPair x (t, a, b) = (there x t a && there x t b && decide (a < b) && decide ((acc x t a).1 ≠ (acc x t b).1)) := by
    unfold isPair
    dsimp only
    cases there x t a <;> cases there x t b <;> cases decide (a < b) <;> simp
  rw [hI]
  unfold dX at *
  cases h1 : there x t a with
  | false =>
    rw [h1] at c1
    obtain ⟨X, hX⟩ : ∃ X, x.map dAccs = X := ⟨_, rfl⟩
    rw [hX] at c1 ⊢
    refine ACall.enter hT (fn := Try.f34) Try.func34 rfl (by decide) (by simp [Try.f34]) rfl rfl rfl rfl (Nat.le_refl _) ?_
    repeat refine AWp.seq ?_
    refine AWp.reg1 {} hT (fun A hA => by cbv) (Nat.zero_le _) ?_
    try dsimp only [AExit.then, AExit.block]
    repeat refine AWp.seq ?_
    refine AWp.regionDraw rfl (Nat.zero_le _) ?_
    refine DOps.stepCall hT (an := {}) rfl (fun A hA => by cbv) rfl rfl (Nat.le_of_ble_eq_true rfl) rfl rfl (c1) ?_
    refine DOps.done hT (an := {}) rfl (fun A hA => by cbv) (by kernel_rfl) ?_
    try dsimp only [AExit.then, AExit.block]
    repeat refine AWp.seq ?_
    refine AWp.ret ⟨?_, rfl, rfl, Nat.zero_le _, _, rfl⟩
    rfl
  | true =>
    cases h2 : there x t b with
    | false =>
      rw [h1] at c1
      rw [h2] at c2
      obtain ⟨X, hX⟩ : ∃ X, x.map dAccs = X := ⟨_, rfl⟩
      rw [hX] at c1 c2 ⊢
      refine ACall.enter hT (fn := Try.f34) Try.func34 rfl (by decide) (by simp [Try.f34]) rfl rfl rfl rfl (Nat.le_refl _) ?_
      repeat refine AWp.seq ?_
      refine AWp.reg1 {} hT (fun A hA => by cbv) (Nat.zero_le _) ?_
      try dsimp only [AExit.then, AExit.block]
      repeat refine AWp.seq ?_
      refine AWp.regionDraw rfl (Nat.zero_le _) ?_
      refine DOps.stepCall hT (an := {}) rfl (fun A hA => by cbv) rfl rfl (Nat.le_of_ble_eq_true rfl) rfl rfl (c1) ?_
      refine DOps.stepCall hT (an := {}) rfl (fun A hA => by cbv) rfl rfl (Nat.le_of_ble_eq_true rfl) rfl rfl (c2) ?_
      refine DOps.done hT (an := {}) rfl (fun A hA => by cbv) (by kernel_rfl) ?_
      try dsimp only [AExit.then, AExit.block]
      repeat refine AWp.seq ?_
      refine AWp.ret ⟨?_, rfl, rfl, Nat.zero_le _, _, rfl⟩
      rfl
    | true =>
      rw [h1] at c1
      rw [h2] at c2
      obtain ⟨k0, k1, L, k2, k3⟩ := there_at h1
      obtain ⟨_, g1, M, g2, g3⟩ := there_at h2
      have hLM : M = L := by rw [k2] at g2; cases g2; rfl
      subst hLM
      obtain ⟨X, hX⟩ : ∃ X, x.map dAccs = X := ⟨_, rfl⟩
      rw [hX] at c1 c2 k2 ⊢
      obtain ⟨v, hv⟩ : ∃ v, (acc x t a).1 = v := ⟨_, rfl⟩
      obtain ⟨v', hv'⟩ : ∃ v, (acc x t b).1 = v := ⟨_, rfl⟩
      obtain ⟨p, hp⟩ : ∃ v, (acc x t a).2 = v := ⟨_, rfl⟩
      obtain ⟨p', hp'⟩ : ∃ v, (acc x t b).2 = v := ⟨_, rfl⟩
      rw [hv, hp] at k3
      rw [hv', hp'] at g3
      rw [hv, hv']
      refine ACall.enter hT (fn := Try.f34) Try.func34 rfl (by decide) (by simp [Try.f34]) rfl rfl rfl rfl (Nat.le_refl _) ?_
      repeat refine AWp.seq ?_
      refine AWp.reg1 {} hT (fun A hA => by cbv) (Nat.zero_le _) ?_
      try dsimp only [AExit.then, AExit.block]
      repeat refine AWp.seq ?_
      refine AWp.regionDraw rfl (Nat.zero_le _) ?_
      refine DOps.stepCall hT (an := {}) rfl (fun A hA => by cbv) rfl rfl (Nat.le_of_ble_eq_true rfl) rfl rfl (c1) ?_
      refine DOps.stepCall hT (an := {}) rfl (fun A hA => by cbv) rfl rfl (Nat.le_of_ble_eq_true rfl) rfl rfl (c2) ?_
      by_cases e : a < b
      · by_cases e2 : v = v'
        · refine DOps.done hT (an := {}) rfl (fun A hA => by
              have f0 := ar_lt hA e
              have f1 := ar_le hA k0
              have f2 := ar_get hA k2
              have f3 := ar_le hA k1
              have f4 := ar_get hA k3
              have f5 := ar_le hA g1
              have f6 := ar_get hA g3
              have f7 := ar_eq hA e2
              repeat (cbv; simp only [f0, f1, f2, f3, f4, f5, f6, f7])
              cbv) (by kernel_rfl) ?_
          try dsimp only [AExit.then, AExit.block]
          repeat refine AWp.seq ?_
          refine AWp.ret ⟨?_, rfl, rfl, Nat.zero_le _, _, rfl⟩
          simp [e, e2]; rfl
        · refine DOps.done hT (an := {}) rfl (fun A hA => by
              have f0 := ar_lt hA e
              have f1 := ar_le hA k0
              have f2 := ar_get hA k2
              have f3 := ar_le hA k1
              have f4 := ar_get hA k3
              have f5 := ar_le hA g1
              have f6 := ar_get hA g3
              have f7 := ar_ne hA e2
              repeat (cbv; simp only [f0, f1, f2, f3, f4, f5, f6, f7])
              cbv) (by kernel_rfl) ?_
          try dsimp only [AExit.then, AExit.block]
          repeat refine AWp.seq ?_
          refine AWp.ret ⟨?_, rfl, rfl, Nat.zero_le _, _, rfl⟩
          simp [e, e2]; rfl
      · refine DOps.done hT (an := {}) rfl (fun A hA => by
            have f0 := ar_nlt hA e
            repeat (cbv; simp only [f0])
            cbv) (by kernel_rfl) ?_
        try dsimp only [AExit.then, AExit.block]
        repeat refine AWp.seq ?_
        refine AWp.ret ⟨?_, rfl, rfl, Nat.zero_le _, _, rfl⟩
        simp [e]; rfl

/-- What both say of two accesses. -/
def conflictT (x : List (List Acc)) (t a u b : Int) : List AV :=
  if valid x then (if there x t a && there x u b then [AB (conflict x t a u b), AI 0] else [AB false, AI 2]) else [AB false, AI 90]

theorem Conflict_ok (x : List (List Acc)) (t a u b : Int) (hx : Big x) (hsm : valid x = true → Small x) : ACall P 18 [.d (dX x), AI t, AI a, AI u, AI b] [] (.tuple (conflictT x t a u b)) [] := by
  have cv := valid_ok x hx
  unfold conflictT
  cases hv : valid x with
  | false =>
    rw [hv] at cv
    obtain ⟨X, hX⟩ : ∃ X, dX x = X := ⟨_, rfl⟩
    rw [hX] at cv ⊢
    refine ACall.enter hT (fn := Try.f18) Try.func18 rfl (by decide) (by simp [Try.f18]) rfl rfl rfl rfl (Nat.le_refl _) ?_
    repeat refine AWp.seq ?_
    refine AWp.reg1 {} hT (fun A hA => by cbv) (Nat.zero_le _) ?_
    try dsimp only [AExit.then, AExit.block]
    repeat refine AWp.seq ?_
    refine AWp.reg1 {} hT (fun A hA => by cbv) (Nat.zero_le _) ?_
    try dsimp only [AExit.then, AExit.block]
    repeat refine AWp.seq ?_
    refine AWp.block ?_
    repeat refine AWp.seq ?_
    refine AWp.region ?_
    refine AOps.stepCall hT (an := {}) (fun A hA => by cbv) (Nat.zero_le _) rfl (.inr rfl) rfl rfl rfl (Nat.le_of_ble_eq_true rfl) rfl rfl (cv) ?_
    refine AOps.done hT (an := {}) (fun A hA => by cbv) (Nat.zero_le _) ?_
    try dsimp only [AExit.then, AExit.block]
    repeat refine AWp.seq ?_
    refine AWp.cond (b := true) rfl ?_
    rw [if_pos rfl]
    repeat refine AWp.seq ?_
    refine AWp.reg1 {} hT (fun A hA => by cbv) (Nat.zero_le _) ?_
    try dsimp only [AExit.then, AExit.block]
    repeat refine AWp.seq ?_
    refine AWp.ret ⟨?_, rfl, rfl, Nat.zero_le _, _, rfl⟩
    rfl
  | true =>
    have hs := hsm hv
    rw [hv] at cv
    have c1 := there_ok x t a hs
    have c2 := there_ok x u b hs
    cases h1 : there x t a with
    | false =>
      rw [h1] at c1
      obtain ⟨X, hX⟩ : ∃ X, dX x = X := ⟨_, rfl⟩
      rw [hX] at cv c1 ⊢
      refine ACall.enter hT (fn := Try.f18) Try.func18 rfl (by decide) (by simp [Try.f18]) rfl rfl rfl rfl (Nat.le_refl _) ?_
      repeat refine AWp.seq ?_
      refine AWp.reg1 {} hT (fun A hA => by cbv) (Nat.zero_le _) ?_
      try dsimp only [AExit.then, AExit.block]
      repeat refine AWp.seq ?_
      refine AWp.reg1 {} hT (fun A hA => by cbv) (Nat.zero_le _) ?_
      try dsimp only [AExit.then, AExit.block]
      repeat refine AWp.seq ?_
      refine AWp.block ?_
      repeat refine AWp.seq ?_
      refine AWp.region ?_
      refine AOps.stepCall hT (an := {}) (fun A hA => by cbv) (Nat.zero_le _) rfl (.inr rfl) rfl rfl rfl (Nat.le_of_ble_eq_true rfl) rfl rfl (cv) ?_
      refine AOps.done hT (an := {}) (fun A hA => by cbv) (Nat.zero_le _) ?_
      try dsimp only [AExit.then, AExit.block]
      repeat refine AWp.seq ?_
      refine AWp.cond (b := false) rfl ?_
      rw [if_neg Bool.false_ne_true]
      repeat refine AWp.seq ?_
      refine AWp.region ?_
      refine AOps.stepCall hT (an := {}) (fun A hA => by cbv) (Nat.zero_le _) rfl (.inr rfl) rfl rfl rfl (Nat.le_of_ble_eq_true rfl) rfl rfl (c1) ?_
      refine AOps.done hT (an := {}) (fun A hA => by cbv) (Nat.zero_le _) ?_
      try dsimp only [AExit.then, AExit.block]
      repeat refine AWp.seq ?_
      refine AWp.cond (b := true) rfl ?_
      rw [if_pos rfl]
      repeat refine AWp.seq ?_
      refine AWp.reg1 {} hT (fun A hA => by cbv) (Nat.zero_le _) ?_
      try dsimp only [AExit.then, AExit.block]
      repeat refine AWp.seq ?_
      refine AWp.ret ⟨?_, rfl, rfl, Nat.zero_le _, _, rfl⟩
      rfl
    | true =>
      cases h2 : there x u b with
      | false =>
        rw [h1] at c1
        rw [h2] at c2
        obtain ⟨X, hX⟩ : ∃ X, dX x = X := ⟨_, rfl⟩
        rw [hX] at cv c1 c2 ⊢
        refine ACall.enter hT (fn := Try.f18) Try.func18 rfl (by decide) (by simp [Try.f18]) rfl rfl rfl rfl (Nat.le_refl _) ?_
        repeat refine AWp.seq ?_
        refine AWp.reg1 {} hT (fun A hA => by cbv) (Nat.zero_le _) ?_
        try dsimp only [AExit.then, AExit.block]
        repeat refine AWp.seq ?_
        refine AWp.reg1 {} hT (fun A hA => by cbv) (Nat.zero_le _) ?_
        try dsimp only [AExit.then, AExit.block]
        repeat refine AWp.seq ?_
        refine AWp.block ?_
        repeat refine AWp.seq ?_
        refine AWp.region ?_
        refine AOps.stepCall hT (an := {}) (fun A hA => by cbv) (Nat.zero_le _) rfl (.inr rfl) rfl rfl rfl (Nat.le_of_ble_eq_true rfl) rfl rfl (cv) ?_
        refine AOps.done hT (an := {}) (fun A hA => by cbv) (Nat.zero_le _) ?_
        try dsimp only [AExit.then, AExit.block]
        repeat refine AWp.seq ?_
        refine AWp.cond (b := false) rfl ?_
        rw [if_neg Bool.false_ne_true]
        repeat refine AWp.seq ?_
        refine AWp.region ?_
        refine AOps.stepCall hT (an := {}) (fun A hA => by cbv) (Nat.zero_le _) rfl (.inr rfl) rfl rfl rfl (Nat.le_of_ble_eq_true rfl) rfl rfl (c1) ?_
        refine AOps.stepCall hT (an := {}) (fun A hA => by cbv) (Nat.zero_le _) rfl (.inr rfl) rfl rfl rfl (Nat.le_of_ble_eq_true rfl) rfl rfl (c2) ?_
        refine AOps.done hT (an := {}) (fun A hA => by cbv) (Nat.zero_le _) ?_
        try dsimp only [AExit.then, AExit.block]
        repeat refine AWp.seq ?_
        refine AWp.cond (b := true) rfl ?_
        rw [if_pos rfl]
        repeat refine AWp.seq ?_
        refine AWp.reg1 {} hT (fun A hA => by cbv) (Nat.zero_le _) ?_
        try dsimp only [AExit.then, AExit.block]
        repeat refine AWp.seq ?_
        refine AWp.ret ⟨?_, rfl, rfl, Nat.zero_le _, _, rfl⟩
        rfl
      | true =>
        have c3 := conflict_ok x t a u b h1 h2
        rw [h1] at c1
        rw [h2] at c2
        obtain ⟨X, hX⟩ : ∃ X, dX x = X := ⟨_, rfl⟩
        obtain ⟨r, hr⟩ : ∃ r, conflict x t a u b = r := ⟨_, rfl⟩
        rw [hX] at cv c1 c2 c3 ⊢
        rw [hr] at c3 ⊢
        refine ACall.enter hT (fn := Try.f18) Try.func18 rfl (by decide) (by simp [Try.f18]) rfl rfl rfl rfl (Nat.le_refl _) ?_
        repeat refine AWp.seq ?_
        refine AWp.reg1 {} hT (fun A hA => by cbv) (Nat.zero_le _) ?_
        try dsimp only [AExit.then, AExit.block]
        repeat refine AWp.seq ?_
        refine AWp.reg1 {} hT (fun A hA => by cbv) (Nat.zero_le _) ?_
        try dsimp only [AExit.then, AExit.block]
        repeat refine AWp.seq ?_
        refine AWp.block ?_
        repeat refine AWp.seq ?_
        refine AWp.region ?_
        refine AOps.stepCall hT (an := {}) (fun A hA => by cbv) (Nat.zero_le _) rfl (.inr rfl) rfl rfl rfl (Nat.le_of_ble_eq_true rfl) rfl rfl (cv) ?_
        refine AOps.done hT (an := {}) (fun A hA => by cbv) (Nat.zero_le _) ?_
        try dsimp only [AExit.then, AExit.block]
        repeat refine AWp.seq ?_
        refine AWp.cond (b := false) rfl ?_
        rw [if_neg Bool.false_ne_true]
        repeat refine AWp.seq ?_
        refine AWp.region ?_
        refine AOps.stepCall hT (an := {}) (fun A hA => by cbv) (Nat.zero_le _) rfl (.inr rfl) rfl rfl rfl (Nat.le_of_ble_eq_true rfl) rfl rfl (c1) ?_
        refine AOps.stepCall hT (an := {}) (fun A hA => by cbv) (Nat.zero_le _) rfl (.inr rfl) rfl rfl rfl (Nat.le_of_ble_eq_true rfl) rfl rfl (c2) ?_
        refine AOps.done hT (an := {}) (fun A hA => by cbv) (Nat.zero_le _) ?_
        try dsimp only [AExit.then, AExit.block]
        repeat refine AWp.seq ?_
        refine AWp.cond (b := false) rfl (AWp.skip ?_)
        try dsimp only [AExit.then, AExit.block]
        repeat refine AWp.seq ?_
        refine AWp.region ?_
        refine AOps.stepCall hT (an := {}) (fun A hA => by cbv) (Nat.zero_le _) rfl (.inr rfl) rfl rfl rfl (Nat.le_of_ble_eq_true rfl) rfl rfl (c3) ?_
        refine AOps.done hT (an := {}) (fun A hA => by cbv) (Nat.zero_le _) ?_
        try dsimp only [AExit.then, AExit.block]
        repeat refine AWp.seq ?_
        refine AWp.ret ⟨?_, rfl, rfl, Nat.zero_le _, _, rfl⟩
        rfl

theorem ConflictR_ok (x : List (List Acc)) (t a u b : Int) (hx : Big x) (hsm : valid x = true → Small x) : ACall P 19 [.d (dX x), AI t, AI a, AI u, AI b] [] (.tuple (conflictT x t a u b)) [] := by
  have cv := validR_ok x hx
  unfold conflictT
  cases hv : valid x with
  | false =>
    rw [hv] at cv
    obtain ⟨X, hX⟩ : ∃ X, dX x = X := ⟨_, rfl⟩
    rw [hX] at cv ⊢
    refine ACall.enter hT (fn := Try.f19) Try.func19 rfl (by decide) (by simp [Try.f19]) rfl rfl rfl rfl (Nat.le_refl _) ?_
    repeat refine AWp.seq ?_
    refine AWp.reg1 {} hT (fun A hA => by cbv) (Nat.zero_le _) ?_
    try dsimp only [AExit.then, AExit.block]
    repeat refine AWp.seq ?_
    refine AWp.region ?_
    refine AOps.stepCall hT (an := {}) (fun A hA => by cbv) (Nat.zero_le _) rfl (.inr rfl) rfl rfl rfl (Nat.le_of_ble_eq_true rfl) rfl rfl (cv) ?_
    refine AOps.done hT (an := {}) (fun A hA => by cbv) (Nat.zero_le _) ?_
    try dsimp only [AExit.then, AExit.block]
    repeat refine AWp.seq ?_
    refine AWp.cond (b := true) rfl ?_
    rw [if_pos rfl]
    repeat refine AWp.seq ?_
    refine AWp.reg1 {} hT (fun A hA => by cbv) (Nat.zero_le _) ?_
    try dsimp only [AExit.then, AExit.block]
    repeat refine AWp.seq ?_
    refine AWp.ret ⟨?_, rfl, rfl, Nat.zero_le _, _, rfl⟩
    rfl
  | true =>
    have hs := hsm hv
    rw [hv] at cv
    have c1 := isAccess_ok x t a hs
    have c2 := isAccess_ok x u b hs
    cases h1 : there x t a with
    | false =>
      rw [h1] at c1
      obtain ⟨X, hX⟩ : ∃ X, dX x = X := ⟨_, rfl⟩
      rw [hX] at cv c1 ⊢
      refine ACall.enter hT (fn := Try.f19) Try.func19 rfl (by decide) (by simp [Try.f19]) rfl rfl rfl rfl (Nat.le_refl _) ?_
      repeat refine AWp.seq ?_
      refine AWp.reg1 {} hT (fun A hA => by cbv) (Nat.zero_le _) ?_
      try dsimp only [AExit.then, AExit.block]
      repeat refine AWp.seq ?_
      refine AWp.region ?_
      refine AOps.stepCall hT (an := {}) (fun A hA => by cbv) (Nat.zero_le _) rfl (.inr rfl) rfl rfl rfl (Nat.le_of_ble_eq_true rfl) rfl rfl (cv) ?_
      refine AOps.done hT (an := {}) (fun A hA => by cbv) (Nat.zero_le _) ?_
      try dsimp only [AExit.then, AExit.block]
      repeat refine AWp.seq ?_
      refine AWp.cond (b := false) rfl (AWp.skip ?_)
      try dsimp only [AExit.then, AExit.block]
      repeat refine AWp.seq ?_
      refine AWp.region ?_
      refine AOps.stepCall hT (an := {}) (fun A hA => by cbv) (Nat.zero_le _) rfl (.inr rfl) rfl rfl rfl (Nat.le_of_ble_eq_true rfl) rfl rfl (c1) ?_
      refine AOps.done hT (an := {}) (fun A hA => by cbv) (Nat.zero_le _) ?_
      try dsimp only [AExit.then, AExit.block]
      repeat refine AWp.seq ?_
      refine AWp.cond (b := true) rfl ?_
      rw [if_pos rfl]
      repeat refine AWp.seq ?_
      refine AWp.reg1 {} hT (fun A hA => by cbv) (Nat.zero_le _) ?_
      try dsimp only [AExit.then, AExit.block]
      repeat refine AWp.seq ?_
      refine AWp.ret ⟨?_, rfl, rfl, Nat.zero_le _, _, rfl⟩
      rfl
    | true =>
      cases h2 : there x u b with
      | false =>
        rw [h1] at c1
        rw [h2] at c2
        obtain ⟨X, hX⟩ : ∃ X, dX x = X := ⟨_, rfl⟩
        rw [hX] at cv c1 c2 ⊢
        refine ACall.enter hT (fn := Try.f19) Try.func19 rfl (by decide) (by simp [Try.f19]) rfl rfl rfl rfl (Nat.le_refl _) ?_
        repeat refine AWp.seq ?_
        refine AWp.reg1 {} hT (fun A hA => by cbv) (Nat.zero_le _) ?_
        try dsimp only [AExit.then, AExit.block]
        repeat refine AWp.seq ?_
        refine AWp.region ?_
        refine AOps.stepCall hT (an := {}) (fun A hA => by cbv) (Nat.zero_le _) rfl (.inr rfl) rfl rfl rfl (Nat.le_of_ble_eq_true rfl) rfl rfl (cv) ?_
        refine AOps.done hT (an := {}) (fun A hA => by cbv) (Nat.zero_le _) ?_
        try dsimp only [AExit.then, AExit.block]
        repeat refine AWp.seq ?_
        refine AWp.cond (b := false) rfl (AWp.skip ?_)
        try dsimp only [AExit.then, AExit.block]
        repeat refine AWp.seq ?_
        refine AWp.region ?_
        refine AOps.stepCall hT (an := {}) (fun A hA => by cbv) (Nat.zero_le _) rfl (.inr rfl) rfl rfl rfl (Nat.le_of_ble_eq_true rfl) rfl rfl (c1) ?_
        refine AOps.stepCall hT (an := {}) (fun A hA => by cbv) (Nat.zero_le _) rfl (.inr rfl) rfl rfl rfl (Nat.le_of_ble_eq_true rfl) rfl rfl (c2) ?_
        refine AOps.done hT (an := {}) (fun A hA => by cbv) (Nat.zero_le _) ?_
        try dsimp only [AExit.then, AExit.block]
        repeat refine AWp.seq ?_
        refine AWp.cond (b := true) rfl ?_
        rw [if_pos rfl]
        repeat refine AWp.seq ?_
        refine AWp.reg1 {} hT (fun A hA => by cbv) (Nat.zero_le _) ?_
        try dsimp only [AExit.then, AExit.block]
        repeat refine AWp.seq ?_
        refine AWp.ret ⟨?_, rfl, rfl, Nat.zero_le _, _, rfl⟩
        rfl
      | true =>
        have c3 := conflictR_ok x t a u b h1 h2
        rw [h1] at c1
        rw [h2] at c2
        obtain ⟨X, hX⟩ : ∃ X, dX x = X := ⟨_, rfl⟩
        obtain ⟨r, hr⟩ : ∃ r, conflict x t a u b = r := ⟨_, rfl⟩
        rw [hX] at cv c1 c2 c3 ⊢
        rw [hr] at c3 ⊢
        refine ACall.enter hT (fn := Try.f19) Try.func19 rfl (by decide) (by simp [Try.f19]) rfl rfl rfl rfl (Nat.le_refl _) ?_
        repeat refine AWp.seq ?_
        refine AWp.reg1 {} hT (fun A hA => by cbv) (Nat.zero_le _) ?_
        try dsimp only [AExit.then, AExit.block]
        repeat refine AWp.seq ?_
        refine AWp.region ?_
        refine AOps.stepCall hT (an := {}) (fun A hA => by cbv) (Nat.zero_le _) rfl (.inr rfl) rfl rfl rfl (Nat.le_of_ble_eq_true rfl) rfl rfl (cv) ?_
        refine AOps.done hT (an := {}) (fun A hA => by cbv) (Nat.zero_le _) ?_
        try dsimp only [AExit.then, AExit.block]
        repeat refine AWp.seq ?_
        refine AWp.cond (b := false) rfl (AWp.skip ?_)
        try dsimp only [AExit.then, AExit.block]
        repeat refine AWp.seq ?_
        refine AWp.region ?_
        refine AOps.stepCall hT (an := {}) (fun A hA => by cbv) (Nat.zero_le _) rfl (.inr rfl) rfl rfl rfl (Nat.le_of_ble_eq_true rfl) rfl rfl (c1) ?_
        refine AOps.stepCall hT (an := {}) (fun A hA => by cbv) (Nat.zero_le _) rfl (.inr rfl) rfl rfl rfl (Nat.le_of_ble_eq_true rfl) rfl rfl (c2) ?_
        refine AOps.done hT (an := {}) (fun A hA => by cbv) (Nat.zero_le _) ?_
        try dsimp only [AExit.then, AExit.block]
        repeat refine AWp.seq ?_
        refine AWp.cond (b := false) rfl (AWp.skip ?_)
        try dsimp only [AExit.then, AExit.block]
        repeat refine AWp.seq ?_
        refine AWp.region ?_
        refine AOps.stepCall hT (an := {}) (fun A hA => by cbv) (Nat.zero_le _) rfl (.inr rfl) rfl rfl rfl (Nat.le_of_ble_eq_true rfl) rfl rfl (c3) ?_
        refine AOps.done hT (an := {}) (fun A hA => by cbv) (Nat.zero_le _) ?_
        try dsimp only [AExit.then, AExit.block]
        repeat refine AWp.seq ?_
        refine AWp.ret ⟨?_, rfl, rfl, Nat.zero_le _, _, rfl⟩
        rfl
end Go.Am

set_option maxRecDepth 100000
set_option linter.unusedVariables false
set_option linter.unusedSimpArgs false
namespace Go.Am
open Go Go.Proofs

/-! ### How many conflict, by the document -/
def cfB (x : List (List Acc)) (t u a b : Nat) : Nat := if conflict x t a u b then 1 else 0
def cfA (x : List (List Acc)) (t u a : Nat) : Nat := sumN (cfB x t u a) (x.getD u []).length
def cfU (x : List (List Acc)) (t u : Nat) : Nat := sumN (cfA x t u) (x.getD t []).length
def cfT (x : List (List Acc)) (t : Nat) : Nat := sumN (cfU x t) t
def nConfR (x : List (List Acc)) : Nat := sumN (cfT x) x.length

theorem small_len {x : List (List Acc)} (hx : Small x) (u : Nat) : (x.getD u []).length ≤ 1000 := by
  rw [List.getD_eq_getElem?_getD]
  cases h : x[u]? with
  | none => simp
  | some l => simpa using hx.2 l (List.mem_of_getElem? h)
theorem cfB_le (x : List (List Acc)) (t u a b : Nat) : cfB x t u a b ≤ 1 := by unfold cfB; split <;> omega
theorem cfA_le {x : List (List Acc)} (hx : Small x) (t u a : Nat) : cfA x t u a ≤ 1000 := by
  have := sumN_le (cfB x t u a) 1 (x.getD u []).length (fun _ _ => cfB_le _ _ _ _ _)
  have := small_len hx u
  unfold cfA; omega
theorem cfU_le {x : List (List Acc)} (hx : Small x) (t u : Nat) : cfU x t u ≤ 1000000 := by
  have h := sumN_le (cfA x t u) 1000 (x.getD t []).length (fun _ _ => cfA_le hx _ _ _)
  have := small_len hx t
  unfold cfU; omega
theorem cfT_le {x : List (List Acc)} (hx : Small x) (t : Nat) (ht : t < x.length) : cfT x t ≤ 1000000000 := by
  have h := sumN_le (cfU x t) 1000000 t (fun _ _ => cfU_le hx _ _)
  have := hx.1
  unfold cfT; omega

theorem conflictsR_ok (x : List (List Acc)) (hx : Big x) (hsm : valid x = true → Small x) : ACall P 21 [.d (dX x)] [] (.tuple (if valid x then [AI (nConfR x), AI 0] else [AI 0, AI 90])) [] := by
  have cv := validR_ok x hx
  cases hv : valid x with
  | false =>
    rw [hv] at cv
    obtain ⟨X, hX⟩ : ∃ X, dX x = X := ⟨_, rfl⟩
    rw [hX] at cv ⊢
    refine ACall.enter hT (fn := Try.f21) Try.func21 rfl (by decide) (by simp [Try.f21]) rfl rfl rfl rfl (Nat.le_refl _) ?_
    repeat refine AWp.seq ?_
    refine AWp.reg1 {} hT (fun A hA => by cbv) (Nat.zero_le _) ?_
    try dsimp only [AExit.then, AExit.block]
    repeat refine AWp.seq ?_
    refine AWp.region ?_
    refine AOps.stepCall hT (an := {}) (fun A hA => by cbv) (Nat.zero_le _) rfl (.inr rfl) rfl rfl rfl (Nat.le_of_ble_eq_true rfl) rfl rfl (cv) ?_
    refine AOps.done hT (an := {}) (fun A hA => by cbv) (Nat.zero_le _) ?_
    try dsimp only [AExit.then, AExit.block]
    repeat refine AWp.seq ?_
    refine AWp.cond (b := true) rfl ?_
    rw [if_pos rfl]
    repeat refine AWp.seq ?_
    refine AWp.reg1 {} hT (fun A hA => by cbv) (Nat.zero_le _) ?_
    try dsimp only [AExit.then, AExit.block]
    repeat refine AWp.seq ?_
    refine AWp.ret ⟨?_, rfl, rfl, Nat.zero_le _, _, rfl⟩
    rfl
  | true =>
    have hsm := hsm hv
    rw [hv] at cv
    have hcf : ∀ t a u b, there x t a = true → there x u b = true → ACall P 66 [.d (dX x), AI t, AI a, AI u, AI b] [] (AB (conflict x t a u b)) [] := fun t a u b => conflictR_ok x t a u b
    unfold dX at *
    obtain ⟨X, hX⟩ : ∃ X, x.map dAccs = X := ⟨_, rfl⟩
    obtain ⟨n, hn⟩ : ∃ n : Int, (X.length : Int) = n := ⟨_, rfl⟩
    have hxl : (x.length : Int) = n := by rw [← hn, ← hX]; simp
    have hs := hsm.1
    rw [hX] at cv hcf ⊢
    rw [if_pos rfl]
    obtain ⟨N, hN⟩ : ∃ N : Int, (nConfR x : Int) = N := ⟨_, rfl⟩
    rw [hN]
    have row : ∀ (z : Int), 0 ≤ z → z < n → ∃ (L' : List D) (k : Int), X[z.toNat]? = some (.list 2 L') ∧ (L'.length : Int) = k ∧ ((x.getD z.toNat []).length : Int) = k ∧ k ≤ 1000 := by
      intro z h0 h1
      obtain ⟨L, hL⟩ : ∃ L, x[z.toNat]? = some L := ⟨_, List.getElem?_eq_getElem (by omega)⟩
      have := small_len hsm z.toNat
      refine ⟨L.map dAcc, L.length, by rw [← hX, List.getElem?_map, hL]; rfl, by simp, by rw [List.getD_eq_getElem?_getD, hL]; rfl, ?_⟩
      rw [List.getD_eq_getElem?_getD, hL] at this
      simp only [Option.getD_some] at this
      omega
    have inn : ∀ (z y : Int), 0 ≤ z → z < n → 0 ≤ y → y < ((x.getD z.toNat []).length : Int) → there x z y = true := by
      intro z y h0 h1 h2 h3
      obtain ⟨L, hL⟩ : ∃ L, x[z.toNat]? = some L := ⟨_, List.getElem?_eq_getElem (by omega)⟩
      rw [List.getD_eq_getElem?_getD, hL] at h3
      simp only [Option.getD_some] at h3
      unfold there; rw [hL]; simp [h0, h2, h3]
    refine ACall.enter hT (fn := Try.f21) Try.func21 rfl (by decide) (by simp [Try.f21]) rfl rfl rfl rfl (Nat.le_refl _) ?_
    repeat refine AWp.seq ?_
    refine AWp.reg1 {} hT (fun A hA => by cbv) (Nat.zero_le _) ?_
    try dsimp only [AExit.then, AExit.block]
    repeat refine AWp.seq ?_
    refine AWp.region ?_
    refine AOps.stepCall hT (an := {}) (fun A hA => by cbv) (Nat.zero_le _) rfl (.inr rfl) rfl rfl rfl (Nat.le_of_ble_eq_true rfl) rfl rfl (cv) ?_
    refine AOps.done hT (an := {}) (fun A hA => by cbv) (Nat.zero_le _) ?_
    try dsimp only [AExit.then, AExit.block]
    repeat refine AWp.seq ?_
    refine AWp.cond (b := false) rfl (AWp.skip ?_)
    try dsimp only [AExit.then, AExit.block]
    repeat refine AWp.seq ?_
    refine AWp.reg1 {} hT (fun A hA => by cbv) (Nat.zero_le _) ?_
    try dsimp only [AExit.then, AExit.block]
    repeat refine AWp.seq ?_
    refine AWp.reg1 {} hT (fun A hA => by
        have f0 := ar_len hA X n hn
        repeat (cbv; simp only [f0])
        cbv) (Nat.zero_le _) ?_
    try dsimp only [AExit.then, AExit.block]
    refine AWp.block (AWp.loopInv (ι := Int × Int) (fun p => 0 ≤ p.1 ∧ p.1 ≤ n ∧ p.2 = (sumN (cfT x) p.1.toNat : Int)) (fun p => (n - p.1).toNat) [0, 4, 13, 14]
      (fun p => { env := [(0, .d (.list 1 X)), (4, AI p.2), (13, AI n), (14, AI p.1)], heap := [], n := 50 }) (0, 0) (by cbv) ⟨Int.le_refl _, by dsimp only; omega, rfl⟩ ?_)
    rintro ⟨t, c⟩ ⟨h0, h1, hc⟩
    dsimp only at *
    by_cases ht : t < n
    · obtain ⟨LT, kt, hXt, hkt, hkT, hkt1⟩ := row t h0 ht
      obtain ⟨t1, ht1⟩ : ∃ z1, t + 1 = z1 := ⟨_, rfl⟩
      have hcb : c ≤ t * 1000000000 := by
        have := sumN_le (cfT x) 1000000000 t.toNat (fun i hi => cfT_le hsm i (by omega))
        rw [hc]; omega
      have hc0 : 0 ≤ c := by rw [hc]; omega
      repeat refine AWp.seq ?_
      refine AWp.reg1 {} hT (fun A hA => by
          have f0 := ar_lt hA ht
          repeat (cbv; simp only [f0])
          cbv) (Nat.zero_le _) ?_
      try dsimp only [AExit.then, AExit.block]
      repeat refine AWp.seq ?_
      refine AWp.cond (b := true) rfl (AWp.skip ?_)
      try dsimp only [AExit.then, AExit.block]
      repeat refine AWp.seq ?_
      refine AWp.block ?_
      repeat refine AWp.seq ?_
      refine AWp.reg1 {} hT (fun A hA => by cbv) (Nat.zero_le _) ?_
      try dsimp only [AExit.then, AExit.block]
      repeat refine AWp.seq ?_
      refine AWp.reg1 {} hT (fun A hA => by cbv) (Nat.zero_le _) ?_
      try dsimp only [AExit.then, AExit.block]
      refine AWp.block (AWp.loopInv (ι := Int × Int) (fun p => 0 ≤ p.1 ∧ p.1 ≤ t ∧ p.2 = c + (sumN (cfU x t.toNat) p.1.toNat : Int)) (fun p => (t - p.1).toNat) [0, 4, 5, 13, 14, 17, 18]
        (fun p => { env := [(0, .d (.list 1 X)), (4, AI p.2), (5, AI t), (13, AI n), (14, AI t), (17, AI t), (18, AI p.1)], heap := [], n := 50 }) (0, c) (by cbv) ⟨Int.le_refl _, by dsimp only; omega, by simp [sumN]⟩ ?_)
      rintro ⟨u, c1⟩ ⟨g0, g1, gc⟩
      dsimp only at *
      by_cases hu : u < t
      · obtain ⟨LU, ku, hXu, hku, hkU, hku1⟩ := row u g0 (by omega)
        obtain ⟨u1, hu1⟩ : ∃ z1, u + 1 = z1 := ⟨_, rfl⟩
        have gcb : c1 ≤ c + u * 1000000 := by
          have := sumN_le (cfU x t.toNat) 1000000 u.toNat (fun i hi => cfU_le hsm _ _)
          rw [gc]; omega
        repeat refine AWp.seq ?_
        refine AWp.reg1 {} hT (fun A hA => by
            have f0 := ar_lt hA hu
            repeat (cbv; simp only [f0])
            cbv) (Nat.zero_le _) ?_
        try dsimp only [AExit.then, AExit.block]
        repeat refine AWp.seq ?_
        refine AWp.cond (b := true) rfl (AWp.skip ?_)
        try dsimp only [AExit.then, AExit.block]
        repeat refine AWp.seq ?_
        refine AWp.block ?_
        repeat refine AWp.seq ?_
        refine AWp.reg1 {} hT (fun A hA => by cbv) (Nat.zero_le _) ?_
        try dsimp only [AExit.then, AExit.block]
        repeat refine AWp.seq ?_
        refine AWp.reg1 {} hT (fun A hA => by
            have f0 := ar_get hA hXt
            have f1 := ar_le hA h0
            have f2 := ar_len hA LT kt hkt
            repeat (cbv; simp only [f0, f1, f2])
            cbv) (Nat.zero_le _) ?_
        try dsimp only [AExit.then, AExit.block]
        refine AWp.block (AWp.loopInv (ι := Int × Int) (fun p => 0 ≤ p.1 ∧ p.1 ≤ kt ∧ p.2 = c1 + (sumN (cfA x t.toNat u.toNat) p.1.toNat : Int)) (fun p => (kt - p.1).toNat) [0, 4, 5, 6, 13, 14, 17, 18, 25, 26]
          (fun p => { env := [(0, .d (.list 1 X)), (4, AI p.2), (5, AI t), (6, AI u), (13, AI n), (14, AI t), (17, AI t), (18, AI u), (25, AI kt), (26, AI p.1)], heap := [], n := 50 }) (0, c1) (by cbv) ⟨Int.le_refl _, by dsimp only; omega, by simp [sumN]⟩ ?_)
        rintro ⟨a, c2⟩ ⟨e0, e1, ec⟩
        dsimp only at *
        by_cases ha : a < kt
        · obtain ⟨a1, ha1⟩ : ∃ z1, a + 1 = z1 := ⟨_, rfl⟩
          have ecb : c2 ≤ c1 + a * 1000 := by
            have := sumN_le (cfA x t.toNat u.toNat) 1000 a.toNat (fun i hi => cfA_le hsm _ _ _)
            rw [ec]; omega
          repeat refine AWp.seq ?_
          refine AWp.reg1 {} hT (fun A hA => by
              have f0 := ar_lt hA ha
              repeat (cbv; simp only [f0])
              cbv) (Nat.zero_le _) ?_
          try dsimp only [AExit.then, AExit.block]
          repeat refine AWp.seq ?_
          refine AWp.cond (b := true) rfl (AWp.skip ?_)
          try dsimp only [AExit.then, AExit.block]
          repeat refine AWp.seq ?_
          refine AWp.block ?_
          repeat refine AWp.seq ?_
          refine AWp.reg1 {} hT (fun A hA => by cbv) (Nat.zero_le _) ?_
          try dsimp only [AExit.then, AExit.block]
          repeat refine AWp.seq ?_
          refine AWp.reg1 {} hT (fun A hA => by
              have f0 := ar_get hA hXu
              have f1 := ar_le hA g0
              have f2 := ar_len hA LU ku hku
              repeat (cbv; simp only [f0, f1, f2])
              cbv) (Nat.zero_le _) ?_
          try dsimp only [AExit.then, AExit.block]
          refine AWp.block (AWp.loopInv (ι := Int × Int) (fun p => 0 ≤ p.1 ∧ p.1 ≤ ku ∧ p.2 = c2 + (sumN (cfB x t.toNat u.toNat a.toNat) p.1.toNat : Int)) (fun p => (ku - p.1).toNat) [0, 4, 5, 6, 7, 13, 14, 17, 18, 25, 26, 33, 34]
            (fun p => { env := [(0, .d (.list 1 X)), (4, AI p.2), (5, AI t), (6, AI u), (7, AI a), (13, AI n), (14, AI t), (17, AI t), (18, AI u), (25, AI kt), (26, AI a), (33, AI ku), (34, AI p.1)], heap := [], n := 50 }) (0, c2) (by cbv) ⟨Int.le_refl _, by dsimp only; omega, by simp [sumN]⟩ ?_)
          rintro ⟨b, c3⟩ ⟨f0, f1, fc⟩
          dsimp only at *
          by_cases hb : b < ku
          · obtain ⟨b1, hb1⟩ : ∃ z1, b + 1 = z1 := ⟨_, rfl⟩
            have fcb : c3 ≤ c2 + b := by
              have := sumN_le (cfB x t.toNat u.toNat a.toNat) 1 b.toNat (fun i hi => cfB_le _ _ _ _ _)
              rw [fc]; omega
            have hcc := hcf t a u b (inn t a h0 ht e0 (by omega)) (inn u b g0 (by omega) f0 (by omega))
            obtain ⟨r, hr⟩ : ∃ r, conflict x t a u b = r := ⟨_, rfl⟩
            have hstep : sumN (cfB x t.toNat u.toNat a.toNat) b1.toNat = sumN (cfB x t.toNat u.toNat a.toNat) b.toNat + if r then 1 else 0 := by
              rw [show b1.toNat = b.toNat + 1 by omega]
              simp only [sumN, cfB]
              rw [show ((t.toNat : Nat) : Int) = t by omega, show ((u.toNat : Nat) : Int) = u by omega, show ((a.toNat : Nat) : Int) = a by omega, show ((b.toNat : Nat) : Int) = b by omega, hr]
            rw [hr] at hcc
            repeat refine AWp.seq ?_
            refine AWp.reg1 {} hT (fun A hA => by
                have f0 := ar_lt hA hb
                repeat (cbv; simp only [f0])
                cbv) (Nat.zero_le _) ?_
            try dsimp only [AExit.then, AExit.block]
            repeat refine AWp.seq ?_
            refine AWp.cond (b := true) rfl (AWp.skip ?_)
            try dsimp only [AExit.then, AExit.block]
            repeat refine AWp.seq ?_
            refine AWp.block ?_
            repeat refine AWp.seq ?_
            refine AWp.reg1 {} hT (fun A hA => by cbv) (Nat.zero_le _) ?_
            try dsimp only [AExit.then, AExit.block]
            repeat refine AWp.seq ?_
            refine AWp.region ?_
            refine AOps.stepCall hT (an := {}) (fun A hA => by cbv) (Nat.zero_le _) rfl (.inr rfl) rfl rfl rfl (Nat.le_of_ble_eq_true rfl) rfl rfl (hcc) ?_
            refine AOps.done hT (an := {}) (fun A hA => by cbv) (Nat.zero_le _) ?_
            try dsimp only [AExit.then, AExit.block]
            cases r with
            | true =>
              obtain ⟨c4, hc4⟩ : ∃ z1, c3 + 1 = z1 := ⟨_, rfl⟩
              repeat refine AWp.seq ?_
              refine AWp.cond (b := true) rfl ?_
              rw [if_pos rfl]
              repeat refine AWp.seq ?_
              refine AWp.reg1 {} hT (fun A hA => by
                  have f0 := ar_add hA c3 1 c4 hc4 (by omega) (by omega)
                  repeat (cbv; simp only [f0])
                  cbv) (Nat.zero_le _) ?_
              try dsimp only [AExit.then, AExit.block]
              repeat refine AWp.seq ?_
              refine AWp.reg1 {} hT (fun A hA => by
                  have f0 := ar_add hA b 1 b1 hb1 (by omega) (by omega)
                  repeat (cbv; simp only [f0])
                  cbv) (Nat.zero_le _) ?_
              try dsimp only [AExit.then, AExit.block]
              refine ⟨(b1, c4), ⟨by dsimp only; omega, by dsimp only; omega, ?_⟩, by dsimp only; omega, by cbv⟩
              dsimp only
              rw [hstep]
              simp only [if_true]
              omega
            | false =>
              repeat refine AWp.seq ?_
              refine AWp.cond (b := false) rfl (AWp.skip ?_)
              try dsimp only [AExit.then, AExit.block]
              repeat refine AWp.seq ?_
              refine AWp.reg1 {} hT (fun A hA => by
                  have f0 := ar_add hA b 1 b1 hb1 (by omega) (by omega)
                  repeat (cbv; simp only [f0])
                  cbv) (Nat.zero_le _) ?_
              try dsimp only [AExit.then, AExit.block]
              refine ⟨(b1, c3), ⟨by dsimp only; omega, by dsimp only; omega, ?_⟩, by dsimp only; omega, by cbv⟩
              dsimp only
              rw [hstep]
              simpa using fc
          · repeat refine AWp.seq ?_
            refine AWp.reg1 {} hT (fun A hA => by
                have f0 := ar_nlt hA hb
                repeat (cbv; simp only [f0])
                cbv) (Nat.zero_le _) ?_
            try dsimp only [AExit.then, AExit.block]
            repeat refine AWp.seq ?_
            refine AWp.cond (b := false) rfl (AWp.exit ?_)
            try dsimp only [AExit.then, AExit.block]
            rw [if_pos rfl]
            repeat refine AWp.seq ?_
            refine AWp.reg1 {} hT (fun A hA => by
                have f0 := ar_add hA a 1 a1 ha1 (by omega) (by omega)
                repeat (cbv; simp only [f0])
                cbv) (Nat.zero_le _) ?_
            try dsimp only [AExit.then, AExit.block]
            refine ⟨(a1, c3), ⟨by dsimp only; omega, by dsimp only; omega, ?_⟩, by dsimp only; omega, by cbv⟩
            dsimp only
            rw [show a1.toNat = a.toNat + 1 by omega]
            simp only [sumN]
            have hbk : b.toNat = (x.getD u.toNat []).length := by omega
            unfold cfA
            rw [fc, hbk, ec]
            unfold cfA
            omega
        · repeat refine AWp.seq ?_
          refine AWp.reg1 {} hT (fun A hA => by
              have f0 := ar_nlt hA ha
              repeat (cbv; simp only [f0])
              cbv) (Nat.zero_le _) ?_
          try dsimp only [AExit.then, AExit.block]
          repeat refine AWp.seq ?_
          refine AWp.cond (b := false) rfl (AWp.exit ?_)
          try dsimp only [AExit.then, AExit.block]
          rw [if_pos rfl]
          repeat refine AWp.seq ?_
          refine AWp.reg1 {} hT (fun A hA => by
              have f0 := ar_add hA u 1 u1 hu1 (by omega) (by omega)
              repeat (cbv; simp only [f0])
              cbv) (Nat.zero_le _) ?_
          try dsimp only [AExit.then, AExit.block]
          refine ⟨(u1, c2), ⟨by dsimp only; omega, by dsimp only; omega, ?_⟩, by dsimp only; omega, by cbv⟩
          dsimp only
          rw [show u1.toNat = u.toNat + 1 by omega]
          simp only [sumN]
          have hbk : a.toNat = (x.getD t.toNat []).length := by omega
          have : cfU x t.toNat u.toNat = sumN (cfA x t.toNat u.toNat) (x.getD t.toNat []).length := rfl
          rw [this, ec, hbk, gc]
          omega
      · repeat refine AWp.seq ?_
        refine AWp.reg1 {} hT (fun A hA => by
            have f0 := ar_nlt hA hu
            repeat (cbv; simp only [f0])
            cbv) (Nat.zero_le _) ?_
        try dsimp only [AExit.then, AExit.block]
        repeat refine AWp.seq ?_
        refine AWp.cond (b := false) rfl (AWp.exit ?_)
        try dsimp only [AExit.then, AExit.block]
        rw [if_pos rfl]
        repeat refine AWp.seq ?_
        refine AWp.reg1 {} hT (fun A hA => by
            have f0 := ar_add hA t 1 t1 ht1 (by omega) (by omega)
            repeat (cbv; simp only [f0])
            cbv) (Nat.zero_le _) ?_
        try dsimp only [AExit.then, AExit.block]
        refine ⟨(t1, c1), ⟨by dsimp only; omega, by dsimp only; omega, ?_⟩, by dsimp only; omega, by cbv⟩
        dsimp only
        rw [show t1.toNat = t.toNat + 1 by omega]
        simp only [sumN]
        have hbk : u.toNat = t.toNat := by omega
        have : cfT x t.toNat = sumN (cfU x t.toNat) t.toNat := rfl
        rw [this, gc, hbk, hc]
        omega
    · repeat refine AWp.seq ?_
      refine AWp.reg1 {} hT (fun A hA => by
          have f0 := ar_nlt hA ht
          repeat (cbv; simp only [f0])
          cbv) (Nat.zero_le _) ?_
      try dsimp only [AExit.then, AExit.block]
      repeat refine AWp.seq ?_
      refine AWp.cond (b := false) rfl (AWp.exit ?_)
      try dsimp only [AExit.then, AExit.block]
      rw [if_pos rfl]
      repeat refine AWp.seq ?_
      refine AWp.reg1 {} hT (fun A hA => by cbv) (Nat.zero_le _) ?_
      try dsimp only [AExit.then, AExit.block]
      repeat refine AWp.seq ?_
      refine AWp.ret ⟨?_, rfl, rfl, Nat.zero_le _, _, rfl⟩
      have : c = N := by
        rw [hc, ← hN, show t.toNat = x.length by omega]; rfl
      rw [this]; rfl

theorem ar_deq {A : Ar} (hA : A = Ar.std) {l m : List D} {r : Bool} (h : l = m ↔ r = true) : A.deq l m = r := by
  subst hA
  cases r with
  | true => simp only [Ar.std, h.2 rfl, decide_true]
  | false =>
    have : ¬ l = m := fun e => by simpa using h.1 e
    simp only [Ar.std, this, decide_false]
theorem ar_beq {A : Ar} (hA : A = Ar.std) {l m r : Bool} (h : (l == m) = r) : A.beq l m = r := by subst hA; exact h
/-! ### The same stations -/
theorem dSta_inj : ∀ {a b : Sta}, dSta a = dSta b → a = b := by
  rintro ⟨a, b, c⟩ ⟨d, e, f⟩ h
  simp [dSta] at h
  simp [h]
theorem sameStations_ok (p q : List Sta) (hp : p.length ≤ 9223372036854775807) : ACall P 24 [.d (.list 3 (p.map dSta)), .d (.list 3 (q.map dSta))] [] (AB (decide (p = q))) [] := by
  obtain ⟨X, hX⟩ : ∃ X, p.map dSta = X := ⟨_, rfl⟩
  obtain ⟨Y, hY⟩ : ∃ Y, q.map dSta = Y := ⟨_, rfl⟩
  obtain ⟨n, hn⟩ : ∃ n : Int, (X.length : Int) = n := ⟨_, rfl⟩
  obtain ⟨m, hm⟩ : ∃ n : Int, (Y.length : Int) = n := ⟨_, rfl⟩
  have hpl : (p.length : Int) = n := by rw [← hn, ← hX]; simp
  have hql : (q.length : Int) = m := by rw [← hm, ← hY]; simp
  rw [hX, hY]
  refine ACall.enter hT (fn := Try.f24) Try.func24 rfl (by decide) (by simp [Try.f24]) rfl rfl rfl rfl (Nat.le_refl _) ?_
  repeat refine AWp.seq ?_
  refine AWp.reg1 {} hT (fun A hA => by cbv) (Nat.zero_le _) ?_
  try dsimp only [AExit.then, AExit.block]
  by_cases hnm : n = m
  · subst hnm
    repeat refine AWp.seq ?_
    refine AWp.reg1 {} hT (fun A hA => by
        have f0 := ar_len hA X n hn
        have f1 := ar_len hA Y n hm
        have f2 := ar_eq hA (rfl : n = n)
        repeat (cbv; simp only [f0, f1, f2])
        cbv) (Nat.zero_le _) ?_
    try dsimp only [AExit.then, AExit.block]
    repeat refine AWp.seq ?_
    refine AWp.cond (b := false) rfl (AWp.skip ?_)
    try dsimp only [AExit.then, AExit.block]
    repeat refine AWp.seq ?_
    refine AWp.reg1 {} hT (fun A hA => by
        have f0 := ar_len hA X n hn
        repeat (cbv; simp only [f0])
        cbv) (Nat.zero_le _) ?_
    try dsimp only [AExit.then, AExit.block]
    refine AWp.block (AWp.loopInv (ι := Int) (fun z => 0 ≤ z ∧ z ≤ n ∧ p.take z.toNat = q.take z.toNat) (fun z => (n - z).toNat) [0, 1, 12, 13]
      (fun z => { env := [(0, .d (.list 3 X)), (1, .d (.list 3 Y)), (12, AI n), (13, AI z)], heap := [], n := 26 }) 0 (by cbv) ⟨Int.le_refl _, by omega, by simp⟩ ?_)
    rintro z ⟨h0, h1, h2⟩
    by_cases hz : z < n
    · obtain ⟨z1, hz1⟩ : ∃ z1, z + 1 = z1 := ⟨_, rfl⟩
      obtain ⟨⟨a, b, c⟩, hs⟩ : ∃ s, p[z.toNat]? = some s := ⟨_, List.getElem?_eq_getElem (by omega)⟩
      obtain ⟨⟨a', b', c'⟩, hs'⟩ : ∃ s, q[z.toNat]? = some s := ⟨_, List.getElem?_eq_getElem (by omega)⟩
      have hXs : X[z.toNat]? = some (.agg [I a, I b, I c]) := by rw [← hX, List.getElem?_map, hs]; rfl
      have hYs : Y[z.toNat]? = some (.agg [I a', I b', I c']) := by rw [← hY, List.getElem?_map, hs']; rfl
      obtain ⟨r, hr⟩ : ∃ r, decide ((a, b, c) = (a', b', c')) = r := ⟨_, rfl⟩
      have hdeq : ∀ A : Ar, A = Ar.std → A.deq [I a, I b, I c] [I a', I b', I c'] = r := fun A hA => ar_deq hA (by rw [← hr]; simp)
      repeat refine AWp.seq ?_
      refine AWp.reg1 {} hT (fun A hA => by
          have f0 := ar_lt hA hz
          repeat (cbv; simp only [f0])
          cbv) (Nat.zero_le _) ?_
      try dsimp only [AExit.then, AExit.block]
      repeat refine AWp.seq ?_
      refine AWp.cond (b := true) rfl (AWp.skip ?_)
      try dsimp only [AExit.then, AExit.block]
      repeat refine AWp.seq ?_
      refine AWp.block ?_
      repeat refine AWp.seq ?_
      refine AWp.reg1 {} hT (fun A hA => by cbv) (Nat.zero_le _) ?_
      try dsimp only [AExit.then, AExit.block]
      cases r with
      | true =>
        repeat refine AWp.seq ?_
        refine AWp.reg1D {} hT rfl (fun A hA => by
            have f0 := ar_get hA hXs
            have f1 := ar_le hA h0
            have f2 := ar_get hA hYs
            have f3 := hdeq A hA
            repeat (cbv; simp only [f0, f1, f2, f3])
            cbv) (by kernel_rfl) (Nat.zero_le _) ?_
        try dsimp only [AExit.then, AExit.block]
        repeat refine AWp.seq ?_
        refine AWp.cond (b := false) rfl (AWp.skip ?_)
        try dsimp only [AExit.then, AExit.block]
        repeat refine AWp.seq ?_
        refine AWp.reg1 {} hT (fun A hA => by
            have f0 := ar_add hA z 1 z1 hz1 (by omega) (by omega)
            repeat (cbv; simp only [f0])
            cbv) (Nat.zero_le _) ?_
        try dsimp only [AExit.then, AExit.block]
        refine ⟨z1, ⟨by omega, by omega, ?_⟩, by omega, by cbv⟩
        rw [show z1.toNat = z.toNat + 1 by omega, List.take_add_one, List.take_add_one, h2, hs, hs']
        rw [of_decide_eq_true hr]
      | false =>
        repeat refine AWp.seq ?_
        refine AWp.reg1D {} hT rfl (fun A hA => by
            have f0 := ar_get hA hXs
            have f1 := ar_le hA h0
            have f2 := ar_get hA hYs
            have f3 := hdeq A hA
            repeat (cbv; simp only [f0, f1, f2, f3])
            cbv) (by kernel_rfl) (Nat.zero_le _) ?_
        try dsimp only [AExit.then, AExit.block]
        repeat refine AWp.seq ?_
        refine AWp.cond (b := true) rfl ?_
        rw [if_pos rfl]
        repeat refine AWp.seq ?_
        refine AWp.reg1 {} hT (fun A hA => by cbv) (Nat.zero_le _) ?_
        try dsimp only [AExit.then, AExit.block]
        repeat refine AWp.seq ?_
        refine AWp.ret ⟨?_, rfl, rfl, Nat.zero_le _, _, rfl⟩
        have : p ≠ q := by
          rintro rfl
          rw [hs] at hs'
          cases hs'
          simp at hr
        simp [this]; rfl
    · repeat refine AWp.seq ?_
      refine AWp.reg1 {} hT (fun A hA => by
          have f0 := ar_nlt hA hz
          repeat (cbv; simp only [f0])
          cbv) (Nat.zero_le _) ?_
      try dsimp only [AExit.then, AExit.block]
      repeat refine AWp.seq ?_
      refine AWp.cond (b := false) rfl (AWp.exit ?_)
      try dsimp only [AExit.then, AExit.block]
      rw [if_pos rfl]
      repeat refine AWp.seq ?_
      refine AWp.reg1 {} hT (fun A hA => by cbv) (Nat.zero_le _) ?_
      try dsimp only [AExit.then, AExit.block]
      repeat refine AWp.seq ?_
      refine AWp.ret ⟨?_, rfl, rfl, Nat.zero_le _, _, rfl⟩
      rw [List.take_of_length_le (by omega), List.take_of_length_le (by omega)] at h2
      simp [h2]; rfl
  · repeat refine AWp.seq ?_
    refine AWp.reg1 {} hT (fun A hA => by
        have f0 := ar_len hA X n hn
        have f1 := ar_len hA Y m hm
        have f2 := ar_ne hA hnm
        repeat (cbv; simp only [f0, f1, f2])
        cbv) (Nat.zero_le _) ?_
    try dsimp only [AExit.then, AExit.block]
    repeat refine AWp.seq ?_
    refine AWp.cond (b := true) rfl ?_
    rw [if_pos rfl]
    repeat refine AWp.seq ?_
    refine AWp.reg1 {} hT (fun A hA => by cbv) (Nat.zero_le _) ?_
    try dsimp only [AExit.then, AExit.block]
    repeat refine AWp.seq ?_
    refine AWp.ret ⟨?_, rfl, rfl, Nat.zero_le _, _, rfl⟩
    have : p ≠ q := by rintro rfl; omega
    simp [this]; rfl
end Go.Am
