/- Own text: D1p2, D1fc, D1fd, D1fe. -/
import Derived.Test.YtalfdjihejohoaaD1p
import Derived.Test.YtalfdjihejohoaaD1fx
import Derived.Test.YtalfdjihejohoaaD1te
set_option maxRecDepth 100000
set_option linter.unusedVariables false
set_option linter.unusedSimpArgs false
namespace Go.Am
open Go Go.Proofs

theorem index98m2 (x : List Sta) (f : FuncId) (bs : List AV) (o0 o1 : Obj) (p : Sta → Bool) (hob0 : o0.inb 3 = true) (hob1 : o1.inb 3 = true) (hbs : inbL 3 bs = true) (hbf : bs.all AV.free = true) (n : Int) (X tl : List D) (hX : x.map dSta ++ tl = X) (hxl : (x.length : Int) = n) (hnb : n ≤ 9223372036854775807)
    (hp : ∀ l ∈ x, ACall P f (.d (dSta l) :: bs) [o0, o1, .arr 3 X] (AB (p l)) [o0, o1, .arr 3 X]) : ACall P 122 [.mref 2 3 0 n, .func f [] bs] [o0, o1, .arr 3 X] (AI (match x.findIdx? p with | some i => (i : Int) | none => -1)) [o0, o1, .arr 3 X] := by
  have hin : objsInb 3 [o0, o1, .arr 3 X] = true := by simp only [objsInb, hob0, hob1]; rfl
  refine ACall.enter hT (fn := Try.f122) Try.func122 rfl (by decide) (by simp [Try.f122]) rfl rfl rfl hin (Nat.le_refl _) ?_
  repeat refine AWp.seq ?_
  refine AWp.reg1 {} hT (fun A hA => by cbv) (Nat.le_of_ble_eq_true rfl) ?_
  try dsimp only [AExit.then, AExit.block]
  repeat refine AWp.seq ?_
  refine AWp.reg1 {} hT (fun A hA => by cbv) (Nat.le_of_ble_eq_true rfl) ?_
  try dsimp only [AExit.then, AExit.block]
  refine AWp.block (AWp.loopInv (ι := Int) (fun z => 0 ≤ z ∧ z ≤ n ∧ ∀ l ∈ x.take z.toNat, p l = false) (fun z => (n - z).toNat) [0, 1, 6, 7, 8]
    (fun z => { env := [(0, .mref 2 3 0 n), (1, .func f [] bs), (6, .mref 2 3 0 n), (7, AI n), (8, AI z)], heap := [o0, o1, .arr 3 X], n := 19 }) 0 (by cbv) ⟨Int.le_refl _, by omega, by simp⟩ ?_)
  rintro z ⟨h0, h1, h2⟩
  by_cases hz : z < n
  · obtain ⟨L, hL⟩ : ∃ L, x[z.toNat]? = some L := ⟨_, List.getElem?_eq_getElem (by omega)⟩
    have hLm := hp L (List.mem_of_getElem? hL)
    have hXt : X[z.toNat]? = some (dSta L) := by rw [← hX, List.getElem?_append_left (by simp; omega), List.getElem?_map, hL]; rfl
    obtain ⟨b, hb⟩ : ∃ b, p L = b := ⟨_, rfl⟩
    rw [hb] at hLm
    obtain ⟨t, a, c⟩ := L
    unfold dSta at hXt hLm
    dsimp only at hXt hLm
    obtain ⟨z1, hz1⟩ : ∃ z1, z + 1 = z1 := ⟨_, rfl⟩
    repeat refine AWp.seq ?_
    refine AWp.reg1 {} hT (fun A hA => by
        have f0 := ar_lt hA hz
        repeat (cbv; simp only [f0])
        cbv) (Nat.le_of_ble_eq_true rfl) ?_
    try dsimp only [AExit.then, AExit.block]
    repeat refine AWp.seq ?_
    refine AWp.cond (b := true) rfl (AWp.skip ?_)
    try dsimp only [AExit.then, AExit.block]
    repeat refine AWp.seq ?_
    refine AWp.block ?_
    repeat refine AWp.seq ?_
    refine AWp.reg1 {} hT (fun A hA => by cbv) (Nat.le_of_ble_eq_true rfl) ?_
    try dsimp only [AExit.then, AExit.block]
    repeat refine AWp.seq ?_
    refine AWp.region ?_
    refine AOps.stepCallW hT (an := {}) (fun A hA => by
        have f0 := ar_get hA hXt
        have f1 := ar_le hA h0
        have f2 := ar_lt hA hz
        have f3 := ar_zadd0 hA z
        repeat (cbv; simp only [f0, f1, f2, f3])
        cbv) (Nat.le_of_ble_eq_true rfl) (by first | rfl | exact hin) (by first | rfl | simp [inbL, AV.inb, hbs]) rfl (Nat.le_of_ble_eq_true rfl) rfl (by first | rfl | simp [AV.free, hbf]) (hLm) ?_
    refine AOps.done hT (an := {}) (fun A hA => by cbv) (Nat.le_of_ble_eq_true rfl) ?_
    try dsimp only [AExit.then, AExit.block]
    cases b with
    | true =>
      repeat refine AWp.seq ?_
      refine AWp.cond (b := true) rfl ?_
      rw [if_pos rfl]
      repeat refine AWp.seq ?_
      refine AWp.reg1 {} hT (fun A hA => by cbv) (Nat.le_of_ble_eq_true rfl) ?_
      try dsimp only [AExit.then, AExit.block]
      refine AWp.ret ⟨?_, rfl, hin, Nat.le_refl _, [], by simp⟩
      have : x.findIdx? p = some z.toNat := by
        rw [List.findIdx?_eq_some_iff_getElem]
        refine ⟨by omega, ?_, fun j hj => ?_⟩
        · rw [List.getElem?_eq_getElem (by omega)] at hL; injection hL with hL; rw [hL]; exact hb
        · have := h2 x[j] (by rw [List.mem_take_iff_getElem]; exact ⟨j, by omega, rfl⟩)
          simp [this]
      rw [this]
      show _ = some (AI (z.toNat : Int))
      rw [show (z.toNat : Int) = z by omega]
      rfl
    | false =>
      repeat refine AWp.seq ?_
      refine AWp.cond (b := false) rfl (AWp.skip ?_)
      try dsimp only [AExit.then, AExit.block]
      repeat refine AWp.seq ?_
      refine AWp.reg1 {} hT (fun A hA => by
          have f0 := ar_add hA z 1 z1 hz1 (by omega) (by omega)
          repeat (cbv; simp only [f0])
          cbv) (Nat.le_of_ble_eq_true rfl) ?_
      try dsimp only [AExit.then, AExit.block]
      refine ⟨z1, ⟨by omega, by omega, ?_⟩, by omega, by cbv⟩
      intro l hl
      rw [show z1.toNat = z.toNat + 1 by omega, List.take_add_one, hL] at hl
      simp at hl
      rcases hl with hl | rfl
      · exact h2 l hl
      · exact hb
  · repeat refine AWp.seq ?_
    refine AWp.reg1 {} hT (fun A hA => by
        have f0 := ar_nlt hA hz
        repeat (cbv; simp only [f0])
        cbv) (Nat.le_of_ble_eq_true rfl) ?_
    try dsimp only [AExit.then, AExit.block]
    repeat refine AWp.seq ?_
    refine AWp.cond (b := false) rfl (AWp.exit ?_)
    try dsimp only [AExit.then, AExit.block]
    rw [if_pos rfl]
    repeat refine AWp.seq ?_
    refine AWp.reg1 {} hT (fun A hA => by cbv) (Nat.le_of_ble_eq_true rfl) ?_
    try dsimp only [AExit.then, AExit.block]
    refine AWp.ret ⟨?_, rfl, hin, Nat.le_refl _, [], by simp⟩
    have : x.findIdx? p = none := by
      rw [List.findIdx?_eq_none_iff]
      intro y hy
      exact h2 y (by rw [List.take_of_length_le (by omega)]; exact hy)
    rw [this]
    rfl

/-- What is deleted is left out; behind it there are zeros. -/
theorem delete98m2 (x : List Sta) (f : FuncId) (bs : List AV) (o0 o1 : Obj) (p : Sta → Bool) (hob0 : o0.inb 3 = true) (hob1 : o1.inb 3 = true) (hbs : inbL 3 bs = true) (hbf : bs.all AV.free = true) (n : Int) (hn : (x.length : Int) = n) (hnb : n ≤ 9223372036854775807) (tl : List D)
    (hp : ∀ l ∈ x, ∀ X, ACall P f (.d (dSta l) :: bs) [o0, o1, .arr 3 X] (AB (p l)) [o0, o1, .arr 3 X]) :
    ∃ (m : Int) (Y : List D), 0 ≤ m ∧ m ≤ Y.length ∧ Y.take m.toNat = (x.filter fun s => !p s).map dSta ∧ ACall P 86 [.mref 2 3 0 n, .func f [] bs] [o0, o1, .arr 3 (x.map dSta ++ tl)] (.mref 2 3 0 m) [o0, o1, .arr 3 Y] := by
  have hinA : ∀ X, objsInb 3 [o0, o1, .arr 3 X] = true := fun X => by simp only [objsInb, hob0, hob1]; rfl
  have hix := index98m2 x f bs o0 o1 p hob0 hob1 hbs hbf n (x.map dSta ++ tl) tl rfl hn hnb (fun l hl => hp l hl _)
  cases hfi : x.findIdx? p with
  | none =>
    rw [hfi] at hix
    have hall : x.filter (fun s => !p s) = x := by
      rw [List.filter_eq_self]
      rw [List.findIdx?_eq_none_iff] at hfi
      intro a ha; simp [hfi a ha]
    refine ⟨n, x.map dSta ++ tl, by omega, by simp; omega, by rw [hall, List.take_left' (by simp; omega)], ?_⟩
    obtain ⟨X, hX⟩ : ∃ X, x.map dSta ++ tl = X := ⟨_, rfl⟩
    rw [hX] at hix ⊢
    have hin := hinA X
    refine ACall.enter hT (fn := Try.f86) Try.func86 rfl (by decide) (by simp [Try.f86]) rfl rfl rfl hin (Nat.le_refl _) ?_
    repeat refine AWp.seq ?_
    refine AWp.reg1 {} hT (fun A hA => by cbv) (Nat.le_of_ble_eq_true rfl) ?_
    try dsimp only [AExit.then, AExit.block]
    repeat refine AWp.seq ?_
    refine AWp.region ?_
    refine AOps.stepCallW hT (an := {}) (fun A hA => by cbv) (Nat.le_of_ble_eq_true rfl) (by first | rfl | exact hin) (by first | rfl | simp [inbL, AV.inb, hbs]) rfl (Nat.le_of_ble_eq_true rfl) rfl (by first | rfl | simp [AV.free, hbf]) (hix) ?_
    refine AOps.done hT (an := {}) (fun A hA => by cbv) (Nat.le_of_ble_eq_true rfl) ?_
    try dsimp only [AExit.then, AExit.block]
    repeat refine AWp.seq ?_
    refine AWp.reg1 {} hT (fun A hA => by
        have f0 := ar_eq hA (rfl : (-1 : Int) = -1)
        repeat (cbv; simp only [f0])
        cbv) (Nat.le_of_ble_eq_true rfl) ?_
    try dsimp only [AExit.then, AExit.block]
    repeat refine AWp.seq ?_
    refine AWp.cond (b := true) rfl ?_
    rw [if_pos rfl]
    repeat refine AWp.seq ?_
    refine AWp.reg1 {} hT (fun A hA => by cbv) (Nat.le_of_ble_eq_true rfl) ?_
    try dsimp only [AExit.then, AExit.block]
    refine AWp.ret ⟨rfl, rfl, hin, Nat.le_refl _, [], by simp⟩
  | some i0 =>
    rw [hfi] at hix
    obtain ⟨hi0, hpi, hbefore⟩ := List.findIdx?_eq_some_iff_getElem.1 hfi
    let q : Sta → Bool := fun s => !p s
    have hq : ∀ s, (!p s) = q s := fun _ => rfl
    have hpq : ∀ s, p s = !q s := fun s => by simp [q]
    -- the list that is left
    refine ⟨((x.filter q).length : Int), (x.filter q).map dSta ++ (List.replicate (x.length - (x.filter q).length) (.agg [I 0, I 0, I 0]) ++ tl), by omega, by simp; omega, by simp only [Int.toNat_natCast]; rw [List.take_left' (by simp)], ?_⟩
    obtain ⟨z0, hz0⟩ : ∃ z0 : Int, (i0 : Int) = z0 := ⟨_, rfl⟩
    dsimp only at hix
    rw [hz0] at hix
    obtain ⟨X, hX⟩ : ∃ X, x.map dSta ++ tl = X := ⟨_, rfl⟩
    obtain ⟨m, hm⟩ : ∃ m : Int, ((x.filter q).length : Int) = m := ⟨_, rfl⟩
    obtain ⟨Y, hY⟩ : ∃ Y, (x.filter q).map dSta ++ (List.replicate (x.length - (x.filter q).length) (.agg [I 0, I 0, I 0]) ++ tl) = Y := ⟨_, rfl⟩
    rw [hX] at hix ⊢
    rw [hm, hY]
    have hin := hinA X
    have hinY := hinA Y
    obtain ⟨z1, hz1⟩ : ∃ z1, z0 + 1 = z1 := ⟨_, rfl⟩
    have hne : ¬ z0 = -1 := by omega
    refine ACall.enter hT (fn := Try.f86) Try.func86 rfl (by decide) (by simp [Try.f86]) rfl rfl rfl hin (Nat.le_of_ble_eq_true rfl) ?_
    repeat refine AWp.seq ?_
    refine AWp.reg1 {} hT (fun A hA => by cbv) (Nat.le_of_ble_eq_true rfl) ?_
    try dsimp only [AExit.then, AExit.block]
    repeat refine AWp.seq ?_
    refine AWp.region ?_
    refine AOps.stepCallW hT (an := {}) (fun A hA => by cbv) (Nat.le_of_ble_eq_true rfl) (by first | rfl | exact hin) (by first | rfl | simp [inbL, AV.inb, hbs]) rfl (Nat.le_of_ble_eq_true rfl) rfl (by first | rfl | simp [AV.free, hbf]) (hix) ?_
    refine AOps.done hT (an := {}) (fun A hA => by cbv) (Nat.le_of_ble_eq_true rfl) ?_
    try dsimp only [AExit.then, AExit.block]
    repeat refine AWp.seq ?_
    refine AWp.reg1 {} hT (fun A hA => by
        have f0 := ar_ne hA hne
        repeat (cbv; simp only [f0])
        cbv) (Nat.le_of_ble_eq_true rfl) ?_
    try dsimp only [AExit.then, AExit.block]
    repeat refine AWp.seq ?_
    refine AWp.cond (b := false) rfl (AWp.skip ?_)
    try dsimp only [AExit.then, AExit.block]
    repeat refine AWp.seq ?_
    refine AWp.reg1 {} hT (fun A hA => by
        have f0 := ar_add hA z0 1 z1 hz1 (by omega) (by omega)
        repeat (cbv; simp only [f0])
        cbv) (Nat.le_of_ble_eq_true rfl) ?_
    try dsimp only [AExit.then, AExit.block]
    refine AWp.block (AWp.loopInv (ι := List Sta × List D × Int × Int)
      (fun I => I.1.map dSta ++ tl = I.2.1 ∧ (I.1.length : Int) = n ∧ 0 ≤ I.2.2.1 ∧ I.2.2.1 < I.2.2.2 ∧ I.2.2.2 ≤ n ∧ I.1.take I.2.2.1.toNat = (x.take I.2.2.2.toNat).filter q ∧ I.1.drop I.2.2.2.toNat = x.drop I.2.2.2.toNat)
      (fun I => (n - I.2.2.2).toNat) [0, 1, 5, 6]
      (fun I => { env := [(0, .mref 2 3 0 n), (1, .func f [] bs), (5, AI I.2.2.1), (6, AI I.2.2.2)], heap := [o0, o1, .arr 3 I.2.1], n := 42 }) (x, X, z0, z1) (by cbv) ⟨hX, hn, by dsimp only; omega, by dsimp only; omega, by dsimp only; omega, ?_, rfl⟩ ?_)
    · dsimp only
      rw [← hz1, ← hz0, show ((i0 : Int) + 1).toNat = i0 + 1 by omega, show ((i0 : Int)).toNat = i0 by omega, List.take_add_one, List.getElem?_eq_getElem hi0, List.filter_append]
      rw [List.filter_eq_self.2 (fun a ha => by
        obtain ⟨j, hj, rfl⟩ := List.mem_take_iff_getElem.1 ha
        have := hbefore j (by omega)
        rw [← hq]; simpa using this)]
      simp [q, hpi]
    · rintro ⟨l, L, i, j⟩ ⟨g1, g2, g3, g4, g5, g6, g7⟩
      dsimp only at g1 g2 g3 g4 g5 g6 g7 ⊢
      obtain ⟨NL, hLl⟩ : ∃ NL : Int, (L.length : Int) = NL := ⟨_, rfl⟩
      have hNL : n ≤ NL := by rw [← hLl, ← g1]; simp; omega
      by_cases hj : j < n
      · obtain ⟨s, hs⟩ : ∃ s, x[j.toNat]? = some s := ⟨_, List.getElem?_eq_getElem (by omega)⟩
        have hls : l[j.toNat]? = some s := by
          have := congrArg (fun l => l[0]?) g7
          simp only [List.getElem?_drop, Nat.add_zero] at this
          rw [this, hs]
        have hLs : L[j.toNat]? = some (dSta s) := by rw [← g1, List.getElem?_append_left (by simp; omega), List.getElem?_map, hls]; rfl
        have hsm := hp s (List.mem_of_getElem? hs) L
        obtain ⟨b, hb⟩ : ∃ b, p s = b := ⟨_, rfl⟩
        rw [hb] at hsm
        obtain ⟨j1, hj1⟩ : ∃ j1, j + 1 = j1 := ⟨_, rfl⟩
        obtain ⟨i1, hi1⟩ : ∃ i1, i + 1 = i1 := ⟨_, rfl⟩
        obtain ⟨y0, hy0⟩ : ∃ y, L[i.toNat]? = some y := ⟨_, List.getElem?_eq_getElem (by omega)⟩
        obtain ⟨L', hL'⟩ : ∃ L', L.set i.toNat (dSta s) = L' := ⟨_, rfl⟩
        have hset : ∀ A : Ar, A = Ar.std → A.lset L (A.nat i) (dSta s) = L' := fun A hA => by subst hA; exact hL'
        have hlm : L' = (l.set i.toNat s).map dSta ++ tl := by rw [← hL', ← g1, List.map_set, List.set_append_left _ _ (by simp; omega)]
        have hin := hinA L
        have hx1 : (x.take j1.toNat).filter q = (x.take j.toNat).filter q ++ [s].filter q := by
          rw [show j1.toNat = j.toNat + 1 by omega, List.take_add_one, hs, List.filter_append]; rfl
        obtain ⟨t, a, c⟩ := s
        unfold dSta at hLs hsm hset
        dsimp only at hLs hsm hset
        repeat refine AWp.seq ?_
        refine AWp.reg1 {} hT (fun A hA => by
            have f0 := ar_lt hA hj
            repeat (cbv; simp only [f0])
            cbv) (Nat.le_of_ble_eq_true rfl) ?_
        try dsimp only [AExit.then, AExit.block]
        repeat refine AWp.seq ?_
        refine AWp.cond (b := true) rfl (AWp.skip ?_)
        try dsimp only [AExit.then, AExit.block]
        repeat refine AWp.seq ?_
        refine AWp.block ?_
        repeat refine AWp.seq ?_
        refine AWp.reg1 {} hT (fun A hA => by
            have f0 := ar_get hA hLs
            have f1 := ar_le hA (show (0:Int) ≤ j by omega)
            have f2 := ar_lt hA hj
            have f3 := ar_zadd0 hA j
            repeat (cbv; simp only [f0, f1, f2, f3])
            cbv) (Nat.le_of_ble_eq_true rfl) ?_
        try dsimp only [AExit.then, AExit.block]
        repeat refine AWp.seq ?_
        refine AWp.region ?_
        refine AOps.stepCallW hT (an := {}) (fun A hA => by cbv) (Nat.le_of_ble_eq_true rfl) (by first | rfl | exact hin) (by first | rfl | simp [inbL, AV.inb, hbs]) rfl (Nat.le_of_ble_eq_true rfl) rfl (by first | rfl | simp [AV.free, hbf]) (hsm) ?_
        refine AOps.done hT (an := {}) (fun A hA => by cbv) (Nat.le_of_ble_eq_true rfl) ?_
        try dsimp only [AExit.then, AExit.block]
        cases b with
        | true =>
          repeat refine AWp.seq ?_
          refine AWp.cond (b := false) rfl (AWp.skip ?_)
          try dsimp only [AExit.then, AExit.block]
          repeat refine AWp.seq ?_
          refine AWp.reg1 {} hT (fun A hA => by
              have f0 := ar_add hA j 1 j1 hj1 (by omega) (by omega)
              repeat (cbv; simp only [f0])
              cbv) (Nat.le_of_ble_eq_true rfl) ?_
          try dsimp only [AExit.then, AExit.block]
          refine ⟨(l, L, i, j1), ⟨g1, g2, g3, by dsimp only; omega, by dsimp only; omega, ?_, ?_⟩, by dsimp only; omega, by cbv⟩
          · dsimp only
            rw [hx1, g6, List.filter_cons, if_neg (by rw [← hq, hb]; decide)]; simp
          · dsimp only
            rw [show j1.toNat = j.toNat + 1 by omega, ← List.drop_drop, g7, List.drop_drop]
        | false =>
          repeat refine AWp.seq ?_
          refine AWp.cond (b := true) rfl ?_
          rw [if_pos rfl]
          repeat refine AWp.seq ?_
          refine AWp.reg1 {} hT (fun A hA => by
              have f0 := ar_get hA hy0
              have f1 := ar_le hA (show (0:Int) ≤ i by omega)
              have f2 := ar_lt hA (show i < n by omega)
              have f3 := ar_zadd0 hA i
              have f4 := hset A hA
              repeat (cbv; simp only [f0, f1, f2, f3, f4])
              cbv) (Nat.le_of_ble_eq_true rfl) ?_
          try dsimp only [AExit.then, AExit.block]
          repeat refine AWp.seq ?_
          refine AWp.reg1 {} hT (fun A hA => by
              have f0 := ar_add hA i 1 i1 hi1 (by omega) (by omega)
              repeat (cbv; simp only [f0])
              cbv) (Nat.le_of_ble_eq_true rfl) ?_
          try dsimp only [AExit.then, AExit.block]
          repeat refine AWp.seq ?_
          refine AWp.reg1 {} hT (fun A hA => by
              have f0 := ar_add hA j 1 j1 hj1 (by omega) (by omega)
              repeat (cbv; simp only [f0])
              cbv) (Nat.le_of_ble_eq_true rfl) ?_
          try dsimp only [AExit.then, AExit.block]
          refine ⟨(l.set i.toNat _, L', i1, j1), ⟨hlm.symm, by simpa using g2, by dsimp only; omega, by dsimp only; omega, by dsimp only; omega, ?_, ?_⟩, by dsimp only; omega, by cbv⟩
          · dsimp only
            have hil : i.toNat < l.length := by omega
            rw [hx1, List.filter_cons, if_pos (by rw [← hq, hb]; decide), ← g6]
            rw [show i1.toNat = i.toNat + 1 by omega, List.take_add_one, List.getElem?_set_self hil, List.take_set_of_le (Nat.le_refl _)]
            simp
          · dsimp only
            rw [List.drop_set_of_lt (by omega), show j1.toNat = j.toNat + 1 by omega, ← List.drop_drop, g7, List.drop_drop]
      · repeat refine AWp.seq ?_
        refine AWp.reg1 {} hT (fun A hA => by
            have f0 := ar_nlt hA hj
            repeat (cbv; simp only [f0])
            cbv) (Nat.le_of_ble_eq_true rfl) ?_
        try dsimp only [AExit.then, AExit.block]
        repeat refine AWp.seq ?_
        refine AWp.cond (b := false) rfl (AWp.exit ?_)
        try dsimp only [AExit.then, AExit.block]
        rw [if_pos rfl]
        have hjn : j = n := by omega
        subst hjn
        rw [List.take_of_length_le (by omega : x.length ≤ j.toNat)] at g6
        have him : i = m := by
          have := congrArg List.length g6
          rw [List.length_take] at this
          omega
        subst him
        obtain ⟨r, hr⟩ : ∃ r, j - i = r := ⟨_, rfl⟩
        have hfill : ∀ A : Ar, A = Ar.std → A.fill L i r (.agg [I 0, I 0, I 0]) = Y := fun A hA => by
          subst hA
          show fillStd L i r _ = Y
          unfold fillStd
          rw [← hY, ← g1, List.take_append_of_le_length (by simp; omega), ← List.map_take, g6, List.drop_left' (by simp; omega), List.append_assoc]
          congr 3
          omega
        have hsum : ∀ A : Ar, A = Ar.std → A.zadd i r = j := fun A hA => by subst hA; show i + r = j; omega
        have hsub : ∀ A : Ar, A = Ar.std → A.zsub j i = r := fun A hA => by subst hA; exact hr
        have hsub0 : ∀ A : Ar, A = Ar.std → A.zsub i 0 = i := fun A hA => by subst hA; show i - 0 = i; omega
        have hadd0 : ∀ A : Ar, A = Ar.std → A.zadd 0 i = i := fun A hA => by subst hA; show 0 + i = i; omega
        have hadd00 : ∀ A : Ar, A = Ar.std → A.zadd 0 0 = 0 := fun A hA => by subst hA; rfl
        repeat refine AWp.seq ?_
        refine AWp.reg1 {} hT (fun A hA => by
            have f0 := ar_le hA (show (0:Int) ≤ i by omega)
            have f1 := ar_le hA (show i ≤ j by omega)
            have f2 := ar_le hA (Int.le_refl j)
            have f3 := hsub A hA
            have f4 := hadd0 A hA
            have f5 := hsum A hA
            have f6 := ar_len hA L NL hLl
            have f7 := ar_le hA hNL
            have f8 := hfill A hA
            repeat (cbv; simp only [f0, f1, f2, f3, f4, f5, f6, f7, f8])
            cbv) (Nat.le_of_ble_eq_true rfl) ?_
        try dsimp only [AExit.then, AExit.block]
        repeat refine AWp.seq ?_
        refine AWp.reg1 {} hT (fun A hA => by
            have f0 := ar_le hA (show (0:Int) ≤ i by omega)
            have f1 := ar_le hA (show i ≤ j by omega)
            have f2 := ar_le hA (Int.le_refl (0:Int))
            have f3 := hsub0 A hA
            have f4 := hadd00 A hA
            repeat (cbv; simp only [f0, f1, f2, f3, f4])
            cbv) (Nat.le_of_ble_eq_true rfl) ?_
        try dsimp only [AExit.then, AExit.block]
        refine AWp.ret ⟨rfl, rfl, hinY, Nat.le_refl _, [], by simp⟩

end Go.Am

set_option maxRecDepth 100000
set_option linter.unusedVariables false
set_option linter.unusedSimpArgs false
namespace Go.Am
open Go Go.Proofs

/-- The fences that are given, and the errno. -/
def fencedT (x : List (List Acc)) (l : List Fen) : List Fen × Int := if valid x then (if fencesB x l then (l, 0) else ([], 2)) else ([], 90)
theorem fencesL_48 {x : List (List Acc)} (h : valid x = true) : (fencesL x).length ≤ 12 := by
  obtain ⟨_, h3, h4⟩ := valid_sizes h
  have hrow : ∀ t, (fenRow t ((x.getD t []).length - 1)).length ≤ 4 := fun t => by
    unfold fenRow
    rw [List.length_map, List.length_range]
    rw [List.getD_eq_getElem?_getD]
    cases hx : x[t]? with
    | none => simp
    | some r => have := (h4 r (List.mem_of_getElem? hx)).1; simp; omega
  have : ∀ n, (fenT x n).length ≤ 4 * n := by
    intro n
    induction n with
    | zero => simp [fenT]
    | succ n ih =>
      have e : fenT x (n + 1) = fenT x n ++ fenRow n ((x.getD n []).length - 1) := flatMap_range_succ _ _
      rw [e, List.length_append]
      have := hrow n
      omega
  have := this x.length
  unfold fencesL
  omega
theorem fenced_ok (x : List (List Acc)) (l : List Fen) (hx : Big x) (hl : l.length ≤ 1000000000) :
    ACall P 85 [.d (dX x), .d (.list 2 (l.map dFen))] [] (.tuple [.d (.list 2 ((fencedT x l).1.map dFen)), AI (fencedT x l).2]) [] := by
  have cv := valid_ok x hx
  unfold fencedT
  cases hv : valid x with
  | false =>
    rw [hv] at cv
    simp only [Bool.false_eq_true, if_false, List.map_nil]
    obtain ⟨X, hX⟩ : ∃ X, dX x = X := ⟨_, rfl⟩
    obtain ⟨L, hL⟩ : ∃ X, l.map dFen = X := ⟨_, rfl⟩
    rw [hX] at cv ⊢
    rw [hL]
    refine ACall.enter hT (fn := Try.f85) Try.func85 rfl (by decide) (by simp [Try.f85]) rfl rfl rfl rfl (Nat.le_refl _) ?_
    repeat refine AWp.seq ?_
    refine AWp.reg1 {} hT (fun A hA => by cbv) (Nat.zero_le _) ?_
    try dsimp only [AExit.then, AExit.block]
    repeat refine AWp.seq ?_
    refine AWp.region ?_
    refine AOps.stepCall hT (an := {}) (fun A hA => by cbv) (Nat.zero_le _) rfl (.inr rfl) rfl rfl rfl (Nat.le_of_ble_eq_true rfl) rfl rfl (cv) ?_
    refine AOps.done hT (an := {}) (fun A hA => by cbv) (Nat.zero_le _) ?_
    try dsimp only [AExit.then, AExit.block]
    repeat refine AWp.seq ?_
    refine AWp.cond (b := true) rfl ?_
    rw [if_pos rfl]
    repeat refine AWp.seq ?_
    refine AWp.reg1 {} hT (fun A hA => by cbv) (Nat.zero_le _) ?_
    try dsimp only [AExit.then, AExit.block]
    repeat refine AWp.seq ?_
    refine AWp.ret ⟨?_, rfl, rfl, Nat.zero_le _, _, rfl⟩
    rfl
  | true =>
    have hs := valid_small hv
    have h12 := fencesL_48 hv
    rw [hv] at cv
    have cf := fences_ok x l hs (by omega) hl
    simp only [if_true]
    cases hF : fencesB x l with
    | false =>
      rw [hF] at cf
      simp only [Bool.false_eq_true, if_false, List.map_nil] at cf ⊢
      obtain ⟨X, hX⟩ : ∃ X, dX x = X := ⟨_, rfl⟩
      obtain ⟨L, hL⟩ : ∃ X, l.map dFen = X := ⟨_, rfl⟩
      rw [hX] at cv cf ⊢
      rw [hL] at cf ⊢
      refine ACall.enter hT (fn := Try.f85) Try.func85 rfl (by decide) (by simp [Try.f85]) rfl rfl rfl rfl (Nat.le_refl _) ?_
      repeat refine AWp.seq ?_
      refine AWp.reg1 {} hT (fun A hA => by cbv) (Nat.zero_le _) ?_
      try dsimp only [AExit.then, AExit.block]
      repeat refine AWp.seq ?_
      refine AWp.region ?_
      refine AOps.stepCall hT (an := {}) (fun A hA => by cbv) (Nat.zero_le _) rfl (.inr rfl) rfl rfl rfl (Nat.le_of_ble_eq_true rfl) rfl rfl (cv) ?_
      refine AOps.done hT (an := {}) (fun A hA => by cbv) (Nat.zero_le _) ?_
      try dsimp only [AExit.then, AExit.block]
      repeat refine AWp.seq ?_
      refine AWp.cond (b := false) rfl (AWp.skip ?_)
      try dsimp only [AExit.then, AExit.block]
      repeat refine AWp.seq ?_
      refine AWp.region ?_
      refine AOps.stepCall hT (an := {}) (fun A hA => by cbv) (Nat.zero_le _) rfl (.inr rfl) rfl rfl rfl (Nat.le_of_ble_eq_true rfl) rfl rfl (cf) ?_
      refine AOps.done hT (an := {}) (fun A hA => by cbv) (Nat.zero_le _) ?_
      try dsimp only [AExit.then, AExit.block]
      repeat refine AWp.seq ?_
      refine AWp.reg1 {} hT (fun A hA => by cbv) (Nat.zero_le _) ?_
      try dsimp only [AExit.then, AExit.block]
      repeat refine AWp.seq ?_
      refine AWp.cond (b := true) rfl ?_
      rw [if_pos rfl]
      repeat refine AWp.seq ?_
      refine AWp.reg1 {} hT (fun A hA => by cbv) (Nat.zero_le _) ?_
      try dsimp only [AExit.then, AExit.block]
      repeat refine AWp.seq ?_
      refine AWp.ret ⟨?_, rfl, rfl, Nat.zero_le _, _, rfl⟩
      rfl
    | true =>
      rw [hF] at cf
      simp only [if_true] at cf ⊢
      obtain ⟨X, hX⟩ : ∃ X, dX x = X := ⟨_, rfl⟩
      obtain ⟨L, hL⟩ : ∃ X, l.map dFen = X := ⟨_, rfl⟩
      rw [hX] at cv cf ⊢
      rw [hL] at cf ⊢
      refine ACall.enter hT (fn := Try.f85) Try.func85 rfl (by decide) (by simp [Try.f85]) rfl rfl rfl rfl (Nat.le_refl _) ?_
      repeat refine AWp.seq ?_
      refine AWp.reg1 {} hT (fun A hA => by cbv) (Nat.zero_le _) ?_
      try dsimp only [AExit.then, AExit.block]
      repeat refine AWp.seq ?_
      refine AWp.region ?_
      refine AOps.stepCall hT (an := {}) (fun A hA => by cbv) (Nat.zero_le _) rfl (.inr rfl) rfl rfl rfl (Nat.le_of_ble_eq_true rfl) rfl rfl (cv) ?_
      refine AOps.done hT (an := {}) (fun A hA => by cbv) (Nat.zero_le _) ?_
      try dsimp only [AExit.then, AExit.block]
      repeat refine AWp.seq ?_
      refine AWp.cond (b := false) rfl (AWp.skip ?_)
      try dsimp only [AExit.then, AExit.block]
      repeat refine AWp.seq ?_
      refine AWp.region ?_
      refine AOps.stepCall hT (an := {}) (fun A hA => by cbv) (Nat.zero_le _) rfl (.inr rfl) rfl rfl rfl (Nat.le_of_ble_eq_true rfl) rfl rfl (cf) ?_
      refine AOps.done hT (an := {}) (fun A hA => by cbv) (Nat.zero_le _) ?_
      try dsimp only [AExit.then, AExit.block]
      repeat refine AWp.seq ?_
      refine AWp.reg1 {} hT (fun A hA => by cbv) (Nat.zero_le _) ?_
      try dsimp only [AExit.then, AExit.block]
      repeat refine AWp.seq ?_
      refine AWp.cond (b := false) rfl (AWp.skip ?_)
      try dsimp only [AExit.then, AExit.block]
      repeat refine AWp.seq ?_
      refine AWp.reg1 {} hT (fun A hA => by cbv) (Nat.zero_le _) ?_
      try dsimp only [AExit.then, AExit.block]
      repeat refine AWp.seq ?_
      refine AWp.ret ⟨?_, rfl, rfl, Nat.zero_le _, _, rfl⟩
      rfl

def holdsF (f : Fen) (s : Sta) : Bool := decide (f.1 = s.1) && decide (s.2.1 ≤ f.2) && decide (f.2 < s.2.2)
theorem holds_ok (f : Fen) (s : Sta) : ACall P 105 [.d (dFen f), .d (dSta s)] [] (AB (holdsF f s)) [] := by
  obtain ⟨u, g⟩ := f
  obtain ⟨t, a, b⟩ := s
  unfold dFen dSta holdsF
  dsimp only
  obtain ⟨e1, h1⟩ : ∃ e, decide (u = t) = e := ⟨_, rfl⟩
  obtain ⟨e2, h2⟩ : ∃ e, decide (a ≤ g) = e := ⟨_, rfl⟩
  obtain ⟨e3, h3⟩ : ∃ e, decide (g < b) = e := ⟨_, rfl⟩
  have k1 : ∀ A : Ar, A = Ar.std → A.zeq u t = e1 := fun A hA => by subst hA; exact h1
  have k2 : ∀ A : Ar, A = Ar.std → A.zle a g = e2 := fun A hA => by subst hA; exact h2
  have k3 : ∀ A : Ar, A = Ar.std → A.zlt g b = e3 := fun A hA => by subst hA; exact h3
  rw [h1, h2, h3]
  cases e1 with
  | false =>
    refine ACall.enter hT (fn := Try.f105) Try.func105 rfl (by decide) (by simp [Try.f105]) rfl rfl rfl rfl (Nat.le_refl _) ?_
    repeat refine AWp.seq ?_
    refine AWp.reg1 {} hT (fun A hA => by cbv) (Nat.zero_le _) ?_
    try dsimp only [AExit.then, AExit.block]
    repeat refine AWp.seq ?_
    refine AWp.reg1 {} hT (fun A hA => by
        have f0 := k1 A hA
        repeat (cbv; simp only [f0])
        cbv) (Nat.zero_le _) ?_
    try dsimp only [AExit.then, AExit.block]
    repeat refine AWp.seq ?_
    refine AWp.ret ⟨?_, rfl, rfl, Nat.zero_le _, _, rfl⟩
    rfl
  | true =>
    cases e2 with
    | false =>
      refine ACall.enter hT (fn := Try.f105) Try.func105 rfl (by decide) (by simp [Try.f105]) rfl rfl rfl rfl (Nat.le_refl _) ?_
      repeat refine AWp.seq ?_
      refine AWp.reg1 {} hT (fun A hA => by cbv) (Nat.zero_le _) ?_
      try dsimp only [AExit.then, AExit.block]
      repeat refine AWp.seq ?_
      refine AWp.reg1 {} hT (fun A hA => by
          have f0 := k1 A hA
          have f1 := k2 A hA
          repeat (cbv; simp only [f0, f1])
          cbv) (Nat.zero_le _) ?_
      try dsimp only [AExit.then, AExit.block]
      repeat refine AWp.seq ?_
      refine AWp.ret ⟨?_, rfl, rfl, Nat.zero_le _, _, rfl⟩
      rfl
    | true =>
      refine ACall.enter hT (fn := Try.f105) Try.func105 rfl (by decide) (by simp [Try.f105]) rfl rfl rfl rfl (Nat.le_refl _) ?_
      repeat refine AWp.seq ?_
      refine AWp.reg1 {} hT (fun A hA => by cbv) (Nat.zero_le _) ?_
      try dsimp only [AExit.then, AExit.block]
      repeat refine AWp.seq ?_
      refine AWp.reg1 {} hT (fun A hA => by
          have f0 := k1 A hA
          have f1 := k2 A hA
          have f2 := k3 A hA
          repeat (cbv; simp only [f0, f1, f2])
          cbv) (Nat.zero_le _) ?_
      try dsimp only [AExit.then, AExit.block]
      repeat refine AWp.seq ?_
      refine AWp.ret ⟨?_, rfl, rfl, Nat.zero_le _, _, rfl⟩
      rfl
theorem holdsR_ok (f : Fen) (s : Sta) : ACall P 106 [.d (dFen f), .d (dSta s)] [] (AB (holdsF f s)) [] := by
  obtain ⟨u, g⟩ := f
  obtain ⟨t, a, b⟩ := s
  unfold dFen dSta holdsF
  dsimp only
  obtain ⟨e1, h1⟩ : ∃ e, decide (u = t) = e := ⟨_, rfl⟩
  obtain ⟨e2, h2⟩ : ∃ e, decide (a ≤ g) = e := ⟨_, rfl⟩
  obtain ⟨e3, h3⟩ : ∃ e, decide (g < b) = e := ⟨_, rfl⟩
  have k1 : ∀ A : Ar, A = Ar.std → A.zeq u t = e1 := fun A hA => by subst hA; exact h1
  have k2 : ∀ A : Ar, A = Ar.std → A.zle a g = e2 := fun A hA => by subst hA; exact h2
  have k3 : ∀ A : Ar, A = Ar.std → A.zlt g b = e3 := fun A hA => by subst hA; exact h3
  rw [h1, h2, h3]
  cases e1 with
  | false =>
    refine ACall.enter hT (fn := Try.f106) Try.func106 rfl (by decide) (by simp [Try.f106]) rfl rfl rfl rfl (Nat.le_refl _) ?_
    repeat refine AWp.seq ?_
    refine AWp.reg1 {} hT (fun A hA => by cbv) (Nat.zero_le _) ?_
    try dsimp only [AExit.then, AExit.block]
    repeat refine AWp.seq ?_
    refine AWp.reg1 {} hT (fun A hA => by
        have f0 := k1 A hA
        repeat (cbv; simp only [f0])
        cbv) (Nat.zero_le _) ?_
    try dsimp only [AExit.then, AExit.block]
    repeat refine AWp.seq ?_
    refine AWp.ret ⟨?_, rfl, rfl, Nat.zero_le _, _, rfl⟩
    rfl
  | true =>
    cases e2 with
    | false =>
      refine ACall.enter hT (fn := Try.f106) Try.func106 rfl (by decide) (by simp [Try.f106]) rfl rfl rfl rfl (Nat.le_refl _) ?_
      repeat refine AWp.seq ?_
      refine AWp.reg1 {} hT (fun A hA => by cbv) (Nat.zero_le _) ?_
      try dsimp only [AExit.then, AExit.block]
      repeat refine AWp.seq ?_
      refine AWp.reg1 {} hT (fun A hA => by
          have f0 := k1 A hA
          have f1 := k2 A hA
          repeat (cbv; simp only [f0, f1])
          cbv) (Nat.zero_le _) ?_
      try dsimp only [AExit.then, AExit.block]
      repeat refine AWp.seq ?_
      refine AWp.ret ⟨?_, rfl, rfl, Nat.zero_le _, _, rfl⟩
      rfl
    | true =>
      refine ACall.enter hT (fn := Try.f106) Try.func106 rfl (by decide) (by simp [Try.f106]) rfl rfl rfl rfl (Nat.le_refl _) ?_
      repeat refine AWp.seq ?_
      refine AWp.reg1 {} hT (fun A hA => by cbv) (Nat.zero_le _) ?_
      try dsimp only [AExit.then, AExit.block]
      repeat refine AWp.seq ?_
      refine AWp.reg1 {} hT (fun A hA => by
          have f0 := k1 A hA
          have f1 := k2 A hA
          have f2 := k3 A hA
          repeat (cbv; simp only [f0, f1, f2])
          cbv) (Nat.zero_le _) ?_
      try dsimp only [AExit.then, AExit.block]
      repeat refine AWp.seq ?_
      refine AWp.ret ⟨?_, rfl, rfl, Nat.zero_le _, _, rfl⟩
      rfl

theorem held1_ok (f : Fen) (s : Sta) : ACall P 124 [.d (dFen f), .ptr 0 0] [.cells [AI s.1, AI s.2.1, AI s.2.2]] (AB (holdsF f s)) [.cells [AI s.1, AI s.2.1, AI s.2.2]] := by
  have ch := holds_ok f s
  obtain ⟨r, hr⟩ : ∃ r, holdsF f s = r := ⟨_, rfl⟩
  rw [hr] at ch ⊢
  obtain ⟨u, g⟩ := f
  obtain ⟨t, a, b⟩ := s
  unfold dFen dSta at *
  dsimp only at *
  refine ACall.enter hT (fn := Try.f124) Try.func124 rfl (by decide) (by simp [Try.f124]) rfl rfl rfl rfl (Nat.le_refl _) ?_
  repeat refine AWp.seq ?_
  refine AWp.reg1 {} hT (fun A hA => by cbv) (Nat.le_of_ble_eq_true rfl) ?_
  try dsimp only [AExit.then, AExit.block]
  repeat refine AWp.seq ?_
  refine AWp.region ?_
  refine AOps.stepCall hT (an := {}) (fun A hA => by cbv) (Nat.le_of_ble_eq_true rfl) rfl (.inr rfl) rfl rfl rfl (Nat.le_of_ble_eq_true rfl) rfl rfl (ch) ?_
  refine AOps.done hT (an := {}) (fun A hA => by cbv) (Nat.le_of_ble_eq_true rfl) ?_
  try dsimp only [AExit.then, AExit.block]
  refine AWp.ret ⟨rfl, rfl, rfl, Nat.le_refl _, [], by simp⟩

def heldF (l : List Fen) (s : Sta) : Bool := l.any fun f => holdsF f s
theorem held_ok (l : List Fen) (s : Sta) (hl : l.length ≤ 1000000000) : ACall P 88 [.d (.list 2 (l.map dFen)), .d (dSta s)] [] (AB (heldF l s)) [] := by
  have cc := contains119 l (by omega) 124 [.ptr 0 0] [.cells [AI s.1, AI s.2.1, AI s.2.2]] (fun f => holdsF f s) rfl rfl rfl (fun f _ => held1_ok f s)
  unfold heldF
  obtain ⟨r, hr⟩ : ∃ r, l.any (fun f => holdsF f s) = r := ⟨_, rfl⟩
  obtain ⟨L, hL⟩ : ∃ X, l.map dFen = X := ⟨_, rfl⟩
  rw [hr] at cc ⊢
  rw [hL] at cc ⊢
  obtain ⟨t, a, b⟩ := s
  unfold dSta
  dsimp only at *
  refine ACall.enter hT (fn := Try.f88) Try.func88 rfl (by decide) (by simp [Try.f88]) rfl rfl rfl rfl (Nat.le_refl _) ?_
  repeat refine AWp.seq ?_
  refine AWp.reg1 {esc := [3]} hT (fun A hA => by cbv) (Nat.zero_le _) ?_
  try dsimp only [AExit.then, AExit.block]
  repeat refine AWp.seq ?_
  refine AWp.region ?_
  refine AOps.stepCallW hT (an := {}) (fun A hA => by cbv) (Nat.zero_le _) (by first | rfl | exact hin) (by first | rfl | simp [inbL, AV.inb, hbs]) rfl (Nat.le_of_ble_eq_true rfl) rfl (by first | rfl | simp [AV.free, hbf]) (cc) ?_
  refine AOps.done hT (an := {}) (fun A hA => by cbv) (Nat.zero_le _) ?_
  try dsimp only [AExit.then, AExit.block]
  refine AWp.ret ⟨rfl, rfl, rfl, Nat.zero_le _, _, rfl⟩

theorem enough1_ok (l : List Fen) (s : Sta) (hl : l.length ≤ 1000000000) : ACall P 126 [.d (dSta s), .ptr 0 0] [.cells [.d (.list 2 (l.map dFen))]] (AB (!heldF l s)) [.cells [.d (.list 2 (l.map dFen))]] := by
  have ch := held_ok l s hl
  obtain ⟨r, hr⟩ : ∃ r, heldF l s = r := ⟨_, rfl⟩
  obtain ⟨L, hL⟩ : ∃ X, l.map dFen = X := ⟨_, rfl⟩
  rw [hr] at ch ⊢
  rw [hL] at ch ⊢
  obtain ⟨t, a, b⟩ := s
  unfold dSta at *
  dsimp only at *
  refine ACall.enter hT (fn := Try.f126) Try.func126 rfl (by decide) (by simp [Try.f126]) rfl rfl rfl rfl (Nat.le_refl _) ?_
  repeat refine AWp.seq ?_
  refine AWp.reg1 {} hT (fun A hA => by cbv) (Nat.le_of_ble_eq_true rfl) ?_
  try dsimp only [AExit.then, AExit.block]
  repeat refine AWp.seq ?_
  refine AWp.region ?_
  refine AOps.stepCall hT (an := {}) (fun A hA => by cbv) (Nat.le_of_ble_eq_true rfl) rfl (.inr rfl) rfl rfl rfl (Nat.le_of_ble_eq_true rfl) rfl rfl (ch) ?_
  refine AOps.done hT (an := {}) (fun A hA => by cbv) (Nat.le_of_ble_eq_true rfl) ?_
  try dsimp only [AExit.then, AExit.block]
  refine AWp.ret ⟨rfl, rfl, rfl, Nat.le_refl _, [], by simp⟩

def enoughF (l : List Fen) (p : List Sta) : Bool := p.all (heldF l)
theorem enough_ok (l : List Fen) (p : List Sta) (hl : l.length ≤ 1000000000) (hp : p.length ≤ 1000000000) : ACall P 91 [.d (.list 2 (l.map dFen)), .d (.list 3 (p.map dSta))] [] (AB (enoughF l p)) [] := by
  have cc := contains98 p (by omega) 126 [.ptr 0 0] [.cells [.d (.list 2 (l.map dFen))]] (fun s => !heldF l s) rfl rfl rfl (fun s _ => enough1_ok l s hl)
  have he : (!p.any fun s => !heldF l s) = enoughF l p := by unfold enoughF; rw [List.not_any_eq_all_not]; simp
  obtain ⟨r, hr⟩ : ∃ r, (p.any fun s => !heldF l s) = r := ⟨_, rfl⟩
  rw [hr] at cc he
  rw [← he]
  obtain ⟨L, hL⟩ : ∃ X, l.map dFen = X := ⟨_, rfl⟩
  obtain ⟨Q, hQ⟩ : ∃ X, p.map dSta = X := ⟨_, rfl⟩
  rw [hL, hQ] at cc
  rw [hL, hQ]
  refine ACall.enter hT (fn := Try.f91) Try.func91 rfl (by decide) (by simp [Try.f91]) rfl rfl rfl rfl (Nat.le_refl _) ?_
  repeat refine AWp.seq ?_
  refine AWp.reg1 {esc := [2]} hT (fun A hA => by cbv) (Nat.zero_le _) ?_
  try dsimp only [AExit.then, AExit.block]
  repeat refine AWp.seq ?_
  refine AWp.region ?_
  refine AOps.stepCallW hT (an := {}) (fun A hA => by cbv) (Nat.zero_le _) (by first | rfl | exact hin) (by first | rfl | simp [inbL, AV.inb, hbs]) rfl (Nat.le_of_ble_eq_true rfl) rfl (by first | rfl | simp [AV.free, hbf]) (cc) ?_
  refine AOps.done hT (an := {}) (fun A hA => by cbv) (Nat.zero_le _) ?_
  try dsimp only [AExit.then, AExit.block]
  refine AWp.ret ⟨rfl, rfl, rfl, Nat.zero_le _, _, rfl⟩

theorem heldIn1_ok (l : List Fen) (s : Sta) (hl : l.length ≤ 1000000000) (o1 : Obj) (h1 : o1.inb 3 = true) (L3 : List D) : ACall P 87 [.d (dSta s), .ptr 0 0] [.cells [.d (.list 2 (l.map dFen))], o1, .arr 3 L3] (AB (!heldF l s)) [.cells [.d (.list 2 (l.map dFen))], o1, .arr 3 L3] := by
  have ch := held_ok l s hl
  obtain ⟨r, hr⟩ : ∃ r, heldF l s = r := ⟨_, rfl⟩
  obtain ⟨L, hL⟩ : ∃ X, l.map dFen = X := ⟨_, rfl⟩
  rw [hr] at ch ⊢
  rw [hL] at ch ⊢
  obtain ⟨t, a, b⟩ := s
  unfold dSta at *
  dsimp only at *
  have hin : objsInb 3 [.cells [.d (.list 2 L)], o1, .arr 3 L3] = true := by simp only [objsInb, h1]; rfl
  refine ACall.enter hT (fn := Try.f87) Try.func87 rfl (by decide) (by simp [Try.f87]) rfl rfl rfl hin (Nat.le_refl _) ?_
  repeat refine AWp.seq ?_
  refine AWp.reg1 {} hT (fun A hA => by cbv) (Nat.le_of_ble_eq_true rfl) ?_
  try dsimp only [AExit.then, AExit.block]
  repeat refine AWp.seq ?_
  refine AWp.region ?_
  refine AOps.stepCall hT (an := {}) (fun A hA => by cbv) (Nat.le_of_ble_eq_true rfl) rfl (.inr rfl) rfl rfl rfl (Nat.le_of_ble_eq_true rfl) rfl rfl (ch) ?_
  refine AOps.done hT (an := {}) (fun A hA => by cbv) (Nat.le_of_ble_eq_true rfl) ?_
  try dsimp only [AExit.then, AExit.block]
  refine AWp.ret ⟨rfl, rfl, hin, Nat.le_refl _, [], by simp⟩

theorem pairs1_ok1 (x : List (List Acc)) (s : Sta) (hx : Small x) (o0 : Obj) (h0 : o0.inb 3 = true) (L : List D) : ACall P 116 [.d (dSta s), .ptr 1 0] [o0, .cells [.d (dX x)], .arr 3 L] (AB (!isPair x s)) [o0, .cells [.d (dX x)], .arr 3 L] := by
  have cp := isPair_ok x s hx
  obtain ⟨t, a, b⟩ := s
  unfold dSta at *
  dsimp only at *
  obtain ⟨X, hX⟩ : ∃ X, dX x = X := ⟨_, rfl⟩
  obtain ⟨r, hr⟩ : ∃ r, isPair x (t, a, b) = r := ⟨_, rfl⟩
  rw [hX] at cp ⊢
  rw [hr] at cp ⊢
  have hin : objsInb 3 [o0, .cells [.d X], .arr 3 L] = true := by simp only [objsInb, h0]; rfl
  refine ACall.enter hT (fn := Try.f116) Try.func116 rfl (by decide) (by simp [Try.f116]) rfl rfl rfl hin (Nat.le_refl _) ?_
  repeat refine AWp.seq ?_
  refine AWp.reg1 {} hT (fun A hA => by cbv) (Nat.le_of_ble_eq_true rfl) ?_
  try dsimp only [AExit.then, AExit.block]
  repeat refine AWp.seq ?_
  refine AWp.region ?_
  refine AOps.stepCall hT (an := {}) (fun A hA => by cbv) (Nat.le_of_ble_eq_true rfl) rfl (.inr rfl) rfl rfl rfl (Nat.le_of_ble_eq_true rfl) rfl rfl (cp) ?_
  refine AOps.done hT (an := {}) (fun A hA => by cbv) (Nat.le_of_ble_eq_true rfl) ?_
  try dsimp only [AExit.then, AExit.block]
  refine AWp.ret ⟨rfl, rfl, hin, Nat.le_refl _, [], by simp⟩

/-- Pairs that may be changed, behind one object. -/
theorem pairs_ok1 (x : List (List Acc)) (hx : Small x) (hlen : (stations x).length ≤ 4000000000) (hne : stations x ≠ []) (o0 : Obj) (h0 : o0.inb 3 = true) (h0' : o0.inb 2 = true) (h0'' : o0.inb 1 = true) :
    ∃ (m : Int) (tl : List D), ((pairsL x).length : Int) = m ∧ ACall P 73 [.d (dX x)] [o0] (.mref 2 3 0 m) [o0, .cells [.d (dX x)], .arr 3 ((pairsL x).map dSta ++ tl)] := by
  have cst := stations_ok x hx
  have hcl := fun s L => pairs1_ok1 x s hx o0 h0 L
  obtain ⟨p, hp⟩ : ∃ p, isPair x = p := ⟨_, rfl⟩
  obtain ⟨l, hl⟩ : ∃ l, stations x = l := ⟨_, rfl⟩
  unfold pairsL
  rw [hl] at cst hlen hne ⊢
  rw [hp] at hcl ⊢
  obtain ⟨X, hX⟩ : ∃ X, dX x = X := ⟨_, rfl⟩
  rw [hX] at cst hcl ⊢
  have hX2 : ∃ k Z, X = .list k Z := ⟨_, _, by rw [← hX]; rfl⟩
  obtain ⟨kx, Z, rfl⟩ := hX2
  obtain ⟨n, hn⟩ : ∃ n : Int, (l.length : Int) = n := ⟨_, rfl⟩
  obtain ⟨m, Y, hm0, hm1, hY, hde⟩ := delete98m2 l 116 [.ptr 1 0] o0 (.cells [.d (.list kx Z)]) (fun s => !p s) h0 rfl rfl rfl n hn (by omega) [] (fun s _ L => hcl s L)
  have hY' : Y.take m.toNat = (l.filter p).map dSta := by rw [hY]; simp
  have hm : ((l.filter p).length : Int) = m := by
    have := congrArg List.length hY'
    simp only [List.length_take, List.length_map] at this
    omega
  refine ⟨m, Y.drop m.toNat, hm, ?_⟩
  have hYY : (l.filter p).map dSta ++ Y.drop m.toNat = Y := by rw [← hY']; exact List.take_append_drop _ _
  rw [hYY]
  rw [List.append_nil] at hde
  have hin3 : objsInb 2 [o0, .cells [.d (.list kx Z)]] = true := by simp only [objsInb, h0']; rfl
  have hin4 : ∀ L, objsInb 3 [o0, .cells [.d (.list kx Z)], .arr 3 L] = true := fun L => by simp only [objsInb, h0]; rfl
  have hin2 : objsInb 1 [o0] = true := by simp only [objsInb, h0'']; rfl
  have cth := ACall.thaw cst rfl rfl (by simpa using hne) (scalars_dSta l) (H := [o0, .cells [.d (.list kx Z)]]) (hin4 _) (n := n) (by simpa using hn)
  obtain ⟨L, hL⟩ : ∃ L, l.map dSta = L := ⟨_, rfl⟩
  rw [hL] at cth hde
  refine ACall.enter hT (fn := Try.f73) Try.func73 rfl (by decide) (by simp [Try.f73]) rfl rfl rfl (hin4 Y) (Nat.le_of_ble_eq_true rfl) ?_
  repeat refine AWp.seq ?_
  refine AWp.reg1 {esc := [1]} hT (fun A hA => by cbv) (Nat.le_of_ble_eq_true rfl) ?_
  try dsimp only [AExit.then, AExit.block]
  repeat refine AWp.seq ?_
  refine AWp.region ?_
  have hin := hin3
  refine AOps.stepCallW hT (an := {}) (fun A hA => by cbv) (Nat.le_of_ble_eq_true rfl) (by first | rfl | exact hin) (by first | rfl | simp [inbL, AV.inb, hbs]) rfl (Nat.le_of_ble_eq_true rfl) rfl (by first | rfl | simp [AV.free, hbf]) (cth) ?_
  have hin := hin4 L
  refine AOps.stepCallW hT (an := {}) (fun A hA => by cbv) (Nat.le_of_ble_eq_true rfl) (by first | rfl | exact hin) (by first | rfl | simp [inbL, AV.inb, hbs]) rfl (Nat.le_of_ble_eq_true rfl) rfl (by first | rfl | simp [AV.free, hbf]) (hde) ?_
  refine AOps.done hT (an := {}) (fun A hA => by cbv) (Nat.le_of_ble_eq_true rfl) ?_
  try dsimp only [AExit.then, AExit.block]
  refine AWp.ret ⟨rfl, rfl, hin4 Y, Nat.le_of_ble_eq_true rfl, [], rfl⟩
end Go.Am

set_option maxRecDepth 100000
set_option linter.unusedVariables false
set_option linter.unusedSimpArgs false
namespace Go.Am
open Go Go.Proofs

theorem Held_ok (x : List (List Acc)) (l : List Fen) (hx : Big x) (hl : l.length ≤ 1000000000) :
    ACall P 38 [.d (dX x), .d (.list 2 (l.map dFen))] [] (.tuple [.d (.list 3 (if (fencedT x l).2 = 0 then ((pairsL x).filter (heldF (fencedT x l).1)).map dSta else [])), AI (fencedT x l).2]) [] := by
  have cf := fenced_ok x l hx hl
  have hval : (fencedT x l).2 = 0 → valid x = true ∧ (fencedT x l).1 = l := fun h => by
    unfold fencedT at h ⊢
    split at h
    · rename_i hv
      rw [if_pos hv]
      split at h
      · rename_i hF; rw [if_pos hF]; exact ⟨hv, rfl⟩
      · simp at h
    · simp at h
  obtain ⟨⟨out, e⟩, hT'⟩ : ∃ t, fencedT x l = t := ⟨_, rfl⟩
  rw [hT'] at cf hval ⊢
  dsimp only at cf hval ⊢
  by_cases he : e = 0
  · obtain ⟨hv, rfl⟩ := hval he
    have hx' := valid_small hv
    have h48 := stations_48 hv
    rw [if_pos he]
    subst he
    have hcl := fun s o1 h1 L3 => heldIn1_ok out s hl o1 h1 L3
    have hps : stations x ≠ [] → ∃ (m : Int) (tl : List D), ((pairsL x).length : Int) = m ∧ ACall P 73 [.d (dX x)] [.cells [.d (.list 2 (out.map dFen))]] (.mref 2 3 0 m) [.cells [.d (.list 2 (out.map dFen))], .cells [.d (dX x)], .arr 3 ((pairsL x).map dSta ++ tl)] :=
      fun hne => pairs_ok1 x hx' (by omega) hne _ rfl rfl rfl
    have hp0 : stations x = [] → ACall P 73 [.d (dX x)] [] (.d (.list 3 [])) [] ∧ pairsL x = [] := fun h => by
      have := pairs_ok x hx' (by omega)
      have h2 : pairsL x = [] := by unfold pairsL; rw [h]; rfl
      rw [h2] at this
      exact ⟨this, h2⟩
    have hpl : (pairsL x).length ≤ 48 := Nat.le_trans (List.length_filter_le _ _) h48
    have cpl := plain_ok ((pairsL x).filter (heldF out)) (Nat.le_trans (List.length_filter_le _ _) (by omega))
    have cpl0 := plain_ok [] (by simp)
    obtain ⟨pl, hpl'⟩ : ∃ pl, pairsL x = pl := ⟨_, rfl⟩
    rw [hpl'] at hps hp0 hpl cpl ⊢
    obtain ⟨p, hp⟩ : ∃ p, heldF out = p := ⟨_, rfl⟩
    rw [hp] at cpl ⊢
    simp only [hp] at hcl
    obtain ⟨X, hX⟩ : ∃ X, dX x = X := ⟨_, rfl⟩
    rw [hX] at cf hps hp0 ⊢
    have hX2 : ∃ k Z, X = .list k Z := ⟨_, _, by rw [← hX]; rfl⟩
    obtain ⟨kx, Z, rfl⟩ := hX2
    obtain ⟨L, hL⟩ : ∃ X, out.map dFen = X := ⟨_, rfl⟩
    rw [hL] at cf hps ⊢
    simp only [hL] at hcl
    by_cases hne : stations x = []
    · obtain ⟨c73, hnil⟩ := hp0 hne
      have hde := delete98e 87 [.ptr 0 0] [.cells [.d (.list 2 L)]] rfl rfl rfl
      rw [hnil]
      simp only [List.filter_nil, List.map_nil] at cpl0 ⊢
      refine ACall.enter hT (fn := Try.f38) Try.func38 rfl (by decide) (by simp [Try.f38]) rfl rfl rfl rfl (Nat.le_refl _) ?_
      repeat refine AWp.seq ?_
      refine AWp.reg1 {} hT (fun A hA => by cbv) (Nat.zero_le _) ?_
      try dsimp only [AExit.then, AExit.block]
      repeat refine AWp.seq ?_
      refine AWp.region ?_
      refine AOps.stepCall hT (an := {}) (fun A hA => by cbv) (Nat.zero_le _) rfl (.inr rfl) rfl rfl rfl (Nat.le_of_ble_eq_true rfl) rfl rfl (cf) ?_
      refine AOps.done hT (an := {esc := [6]}) (fun A hA => by cbv) (Nat.zero_le _) ?_
      try dsimp only [AExit.then, AExit.block]
      repeat refine AWp.seq ?_
      refine AWp.reg1 {} hT (fun A hA => by
          have f0 := ar_eq hA (rfl : (0 : Int) = 0)
          repeat (cbv; simp only [f0])
          cbv) (Nat.zero_le _) ?_
      try dsimp only [AExit.then, AExit.block]
      repeat refine AWp.seq ?_
      refine AWp.cond (b := false) rfl (AWp.skip ?_)
      try dsimp only [AExit.then, AExit.block]
      repeat refine AWp.seq ?_
      refine AWp.region ?_
      refine AOps.stepCall hT (an := {}) (fun A hA => by cbv) (Nat.zero_le _) rfl (.inr rfl) rfl rfl rfl (Nat.le_of_ble_eq_true rfl) rfl rfl (c73) ?_
      refine AOps.stepCallW hT (an := {}) (fun A hA => by cbv) (Nat.zero_le _) (by first | rfl | exact hin) (by first | rfl | simp [inbL, AV.inb, hbs]) rfl (Nat.le_of_ble_eq_true rfl) rfl (by first | rfl | simp [AV.free, hbf]) (hde) ?_
      refine AOps.stepCall hT (an := {}) (fun A hA => by cbv) (Nat.zero_le _) rfl (.inr rfl) rfl rfl rfl (Nat.le_of_ble_eq_true rfl) rfl rfl (cpl0) ?_
      refine AOps.done hT (an := {}) (fun A hA => by cbv) (Nat.zero_le _) ?_
      try dsimp only [AExit.then, AExit.block]
      refine AWp.ret ⟨rfl, rfl, rfl, Nat.zero_le _, _, rfl⟩
    · obtain ⟨m, tl, hm, c73⟩ := hps hne
      obtain ⟨m', Y, hm0, hm1, hY, hde⟩ := delete98m2 pl 87 [.ptr 0 0] (.cells [.d (.list 2 L)]) (.cells [.d (.list kx Z)]) (fun s => !p s) rfl rfl rfl rfl m hm (by omega) tl (fun s _ L3 => hcl s _ rfl L3)
      have hY' : Ar.std.sub Y 0 (0 + m') = (pl.filter p).map dSta := by
        rw [std_sub0 _ _ hm0, hY]; simp
      obtain ⟨R, hR⟩ : ∃ R, (pl.filter p).map dSta = R := ⟨_, rfl⟩
      obtain ⟨PL, hPL⟩ : ∃ R, pl.map dSta ++ tl = R := ⟨_, rfl⟩
      rw [hPL] at c73 hde
      rw [hR] at hY' cpl ⊢
      refine ACall.enter hT (fn := Try.f38) Try.func38 rfl (by decide) (by simp [Try.f38]) rfl rfl rfl rfl (Nat.le_refl _) ?_
      repeat refine AWp.seq ?_
      refine AWp.reg1 {} hT (fun A hA => by cbv) (Nat.zero_le _) ?_
      try dsimp only [AExit.then, AExit.block]
      repeat refine AWp.seq ?_
      refine AWp.region ?_
      refine AOps.stepCall hT (an := {}) (fun A hA => by cbv) (Nat.zero_le _) rfl (.inr rfl) rfl rfl rfl (Nat.le_of_ble_eq_true rfl) rfl rfl (cf) ?_
      refine AOps.done hT (an := {esc := [6]}) (fun A hA => by cbv) (Nat.zero_le _) ?_
      try dsimp only [AExit.then, AExit.block]
      repeat refine AWp.seq ?_
      refine AWp.reg1 {} hT (fun A hA => by
          have f0 := ar_eq hA (rfl : (0 : Int) = 0)
          repeat (cbv; simp only [f0])
          cbv) (Nat.zero_le _) ?_
      try dsimp only [AExit.then, AExit.block]
      repeat refine AWp.seq ?_
      refine AWp.cond (b := false) rfl (AWp.skip ?_)
      try dsimp only [AExit.then, AExit.block]
      repeat refine AWp.seq ?_
      refine AWp.region ?_
      refine AOps.stepCallW hT (an := {}) (fun A hA => by cbv) (Nat.zero_le _) (by first | rfl | exact hin) (by first | rfl | simp [inbL, AV.inb, hbs]) rfl (Nat.le_of_ble_eq_true rfl) rfl (by first | rfl | simp [AV.free, hbf]) (c73) ?_
      refine AOps.stepCallW hT (an := {}) (fun A hA => by cbv) (Nat.zero_le _) (by first | rfl | exact hin) (by first | rfl | simp [inbL, AV.inb, hbs]) rfl (Nat.le_of_ble_eq_true rfl) rfl (by first | rfl | simp [AV.free, hbf]) (hde) ?_
      refine AOps.freeze (s := 20) (i := 2) (k := 3) (lo := 0) (n := m') (l := Y) (l' := R) rfl rfl (by omega) hY' ?_
      refine AOps.stepCall hT (an := {}) (fun A hA => by cbv) (Nat.zero_le _) rfl (.inr rfl) rfl rfl rfl (Nat.le_of_ble_eq_true rfl) rfl rfl (cpl) ?_
      refine AOps.done hT (an := {}) (fun A hA => by cbv) (Nat.zero_le _) ?_
      try dsimp only [AExit.then, AExit.block]
      refine AWp.ret ⟨rfl, rfl, rfl, Nat.zero_le _, _, rfl⟩
  · rw [if_neg he]
    obtain ⟨X, hX⟩ : ∃ X, dX x = X := ⟨_, rfl⟩
    rw [hX] at cf ⊢
    obtain ⟨L, hL⟩ : ∃ X, out.map dFen = X := ⟨_, rfl⟩
    obtain ⟨L', hL'⟩ : ∃ X, l.map dFen = X := ⟨_, rfl⟩
    rw [hL, hL'] at cf
    rw [hL']
    refine ACall.enter hT (fn := Try.f38) Try.func38 rfl (by decide) (by simp [Try.f38]) rfl rfl rfl rfl (Nat.le_refl _) ?_
    repeat refine AWp.seq ?_
    refine AWp.reg1 {} hT (fun A hA => by cbv) (Nat.zero_le _) ?_
    try dsimp only [AExit.then, AExit.block]
    repeat refine AWp.seq ?_
    refine AWp.region ?_
    refine AOps.stepCall hT (an := {}) (fun A hA => by cbv) (Nat.zero_le _) rfl (.inr rfl) rfl rfl rfl (Nat.le_of_ble_eq_true rfl) rfl rfl (cf) ?_
    refine AOps.done hT (an := {esc := [6]}) (fun A hA => by cbv) (Nat.zero_le _) ?_
    try dsimp only [AExit.then, AExit.block]
    repeat refine AWp.seq ?_
    refine AWp.reg1 {} hT (fun A hA => by
        have f0 := ar_ne hA he
        repeat (cbv; simp only [f0])
        cbv) (Nat.zero_le _) ?_
    try dsimp only [AExit.then, AExit.block]
    repeat refine AWp.seq ?_
    refine AWp.cond (b := true) rfl ?_
    rw [if_pos rfl]
    repeat refine AWp.seq ?_
    refine AWp.reg1 {} hT (fun A hA => by cbv) (Nat.zero_le _) ?_
    try dsimp only [AExit.then, AExit.block]
    refine AWp.ret ⟨rfl, rfl, rfl, Nat.zero_le _, _, rfl⟩
end Go.Am

set_option maxRecDepth 100000
set_option linter.unusedVariables false
set_option linter.unusedSimpArgs false
namespace Go.Am
open Go Go.Proofs

/-- Whether fences are enough, and the errno. -/
def enoughT (x : List (List Acc)) (l : List Fen) : Bool × Int := if (fencedT x l).2 = 0 then (enoughF l (neededL x), 0) else (false, (fencedT x l).2)
theorem Enough_ok (x : List (List Acc)) (l : List Fen) (hx : Big x) (hl : l.length ≤ 1000000000) :
    ACall P 40 [.d (dX x), .d (.list 2 (l.map dFen))] [] (.tuple [AB (enoughT x l).1, AI (enoughT x l).2]) [] := by
  have cf := fenced_ok x l hx hl
  have hval : (fencedT x l).2 = 0 → valid x = true ∧ (fencedT x l).1 = l := fun h => by
    unfold fencedT at h ⊢
    split at h
    · rename_i hv
      rw [if_pos hv]
      split at h
      · rename_i hF; rw [if_pos hF]; exact ⟨hv, rfl⟩
      · simp at h
    · simp at h
  unfold enoughT
  obtain ⟨⟨out, e⟩, hT'⟩ : ∃ t, fencedT x l = t := ⟨_, rfl⟩
  rw [hT'] at cf hval ⊢
  dsimp only at cf hval ⊢
  by_cases he : e = 0
  · obtain ⟨hv, rfl⟩ := hval he
    have hx' := valid_small hv
    have h48 := stations_48 hv
    rw [if_pos he]
    subst he
    have hnl : (neededL x).length ≤ 48 := Nat.le_trans (List.length_filter_le _ _) (Nat.le_trans (List.length_filter_le _ _) h48)
    have cn := needed_ok x hx' (by omega)
    have ce := enough_ok out (neededL x) hl (by omega)
    obtain ⟨r, hr⟩ : ∃ r, enoughF out (neededL x) = r := ⟨_, rfl⟩
    obtain ⟨N, hN⟩ : ∃ r, (neededL x).map dSta = r := ⟨_, rfl⟩
    obtain ⟨X, hX⟩ : ∃ X, dX x = X := ⟨_, rfl⟩
    obtain ⟨L, hL⟩ : ∃ X, out.map dFen = X := ⟨_, rfl⟩
    rw [hr] at ce ⊢
    rw [hN] at ce cn
    rw [hX] at cf cn ⊢
    rw [hL] at cf ce ⊢
    refine ACall.enter hT (fn := Try.f40) Try.func40 rfl (by decide) (by simp [Try.f40]) rfl rfl rfl rfl (Nat.le_refl _) ?_
    repeat refine AWp.seq ?_
    refine AWp.reg1 {} hT (fun A hA => by cbv) (Nat.zero_le _) ?_
    try dsimp only [AExit.then, AExit.block]
    repeat refine AWp.seq ?_
    refine AWp.region ?_
    refine AOps.stepCall hT (an := {}) (fun A hA => by cbv) (Nat.zero_le _) rfl (.inr rfl) rfl rfl rfl (Nat.le_of_ble_eq_true rfl) rfl rfl (cf) ?_
    refine AOps.done hT (an := {}) (fun A hA => by cbv) (Nat.zero_le _) ?_
    try dsimp only [AExit.then, AExit.block]
    repeat refine AWp.seq ?_
    refine AWp.region ?_
    refine AOps.stepCall hT (an := {}) (fun A hA => by
        have f0 := ar_eq hA (rfl : (0 : Int) = 0)
        repeat (cbv; simp only [f0])
        cbv) (Nat.zero_le _) rfl (.inr rfl) rfl rfl rfl (Nat.le_of_ble_eq_true rfl) rfl rfl (cn) ?_
    refine AOps.stepCall hT (an := {}) (fun A hA => by cbv) (Nat.zero_le _) rfl (.inr rfl) rfl rfl rfl (Nat.le_of_ble_eq_true rfl) rfl rfl (ce) ?_
    refine AOps.done hT (an := {}) (fun A hA => by cbv) (Nat.zero_le _) ?_
    try dsimp only [AExit.then, AExit.block]
    repeat refine AWp.seq ?_
    refine AWp.ret ⟨?_, rfl, rfl, Nat.zero_le _, _, rfl⟩
    rfl
  · rw [if_neg he]
    obtain ⟨X, hX⟩ : ∃ X, dX x = X := ⟨_, rfl⟩
    rw [hX] at cf ⊢
    obtain ⟨L, hL⟩ : ∃ X, out.map dFen = X := ⟨_, rfl⟩
    obtain ⟨L', hL'⟩ : ∃ X, l.map dFen = X := ⟨_, rfl⟩
    rw [hL, hL'] at cf
    rw [hL']
    refine ACall.enter hT (fn := Try.f40) Try.func40 rfl (by decide) (by simp [Try.f40]) rfl rfl rfl rfl (Nat.le_refl _) ?_
    repeat refine AWp.seq ?_
    refine AWp.reg1 {} hT (fun A hA => by cbv) (Nat.zero_le _) ?_
    try dsimp only [AExit.then, AExit.block]
    repeat refine AWp.seq ?_
    refine AWp.region ?_
    refine AOps.stepCall hT (an := {}) (fun A hA => by cbv) (Nat.zero_le _) rfl (.inr rfl) rfl rfl rfl (Nat.le_of_ble_eq_true rfl) rfl rfl (cf) ?_
    refine AOps.done hT (an := {}) (fun A hA => by cbv) (Nat.zero_le _) ?_
    try dsimp only [AExit.then, AExit.block]
    repeat refine AWp.seq ?_
    refine AWp.reg1 {} hT (fun A hA => by
        have f0 := ar_ne hA he
        repeat (cbv; simp only [f0])
        cbv) (Nat.zero_le _) ?_
    try dsimp only [AExit.then, AExit.block]
    repeat refine AWp.seq ?_
    refine AWp.ret ⟨?_, rfl, rfl, Nat.zero_le _, _, rfl⟩
    rfl

/-! Costs. -/
def dRow (l : List Int) : D := .list 1 (l.map I)
def dCost (c : List (List Int)) : D := .list 1 (c.map dRow)
def in19 (n : Int) : Bool := decide (1 ≤ n) && decide (n ≤ 9)
def prAt (x : List (List Acc)) (c : List (List Int)) (t : Nat) : Bool :=
  decide (t < x.length) && decide ((c.getD t []).length = (x.getD t []).length - 1) && (c.getD t []).all in19
def pricedB (x : List (List Acc)) (c : List (List Int)) : Bool := (List.range c.length).all (prAt x c) && decide (c.length = x.length)

theorem priced1_ok (n : Int) : ACall P 127 [AI n] [] (AB (!in19 n)) [] := by
  have cb := between_ok 1 n 9
  unfold in19
  obtain ⟨r, hr⟩ : ∃ r, (decide (1 ≤ n) && decide (n ≤ 9)) = r := ⟨_, rfl⟩
  rw [hr] at cb ⊢
  refine ACall.enter hT (fn := Try.f127) Try.func127 rfl (by decide) (by simp [Try.f127]) rfl rfl rfl rfl (Nat.le_refl _) ?_
  repeat refine AWp.seq ?_
  refine AWp.reg1 {} hT (fun A hA => by cbv) (Nat.zero_le _) ?_
  try dsimp only [AExit.then, AExit.block]
  repeat refine AWp.seq ?_
  refine AWp.region ?_
  refine AOps.stepCall hT (an := {}) (fun A hA => by cbv) (Nat.zero_le _) rfl (.inr rfl) rfl rfl rfl (Nat.le_of_ble_eq_true rfl) rfl rfl (cb) ?_
  refine AOps.done hT (an := {}) (fun A hA => by cbv) (Nat.zero_le _) ?_
  try dsimp only [AExit.then, AExit.block]
  repeat refine AWp.seq ?_
  refine AWp.ret ⟨?_, rfl, rfl, Nat.zero_le _, _, rfl⟩
  rfl
theorem priced_ok (x : List (List Acc)) (c : List (List Int)) (hx : Small x) (hc : c.length ≤ 1000000000) (hcr : ∀ r ∈ c, r.length ≤ 9223372036854775807) : ACall P 93 [.d (dX x), .d (dCost c)] [] (AB (pricedB x c)) [] := by
  have cin := fun (r : List Int) (h : r.length ≤ 9223372036854775807) => containsI r h 127 [] [] (fun n => !in19 n) rfl rfl rfl (fun n _ => priced1_ok n)
  have hpr : ∀ t, prAt x c t = (decide (t < x.length) && decide ((c.getD t []).length = (x.getD t []).length - 1) && (c.getD t []).all in19) := fun t => rfl
  obtain ⟨F, hF⟩ : ∃ F, pricedB x c = F := ⟨_, rfl⟩
  rw [hF]
  unfold pricedB at hF
  obtain ⟨pr, hpr'⟩ : ∃ f, prAt x c = f := ⟨_, rfl⟩
  rw [hpr'] at hpr hF
  unfold dX dCost
  obtain ⟨X, hX⟩ : ∃ X, x.map dAccs = X := ⟨_, rfl⟩
  obtain ⟨C, hC⟩ : ∃ X, c.map dRow = X := ⟨_, rfl⟩
  obtain ⟨m, hm⟩ : ∃ n : Int, (X.length : Int) = n := ⟨_, rfl⟩
  obtain ⟨n, hn⟩ : ∃ n : Int, (C.length : Int) = n := ⟨_, rfl⟩
  have hxm : (x.length : Int) = m := by rw [← hm, ← hX]; simp
  have hcn : (c.length : Int) = n := by rw [← hn, ← hC]; simp
  have hno : ∀ i, i < c.length → pr i = false → F = false := fun i hi h => by
    rw [← hF, List.all_eq_false.2 ⟨i, by simpa using hi, by rw [h]; decide⟩]; rfl
  rw [hX, hC]
  refine ACall.enter hT (fn := Try.f93) Try.func93 rfl (by decide) (by simp [Try.f93]) rfl rfl rfl rfl (Nat.le_refl _) ?_
  repeat refine AWp.seq ?_
  refine AWp.reg1 {} hT (fun A hA => by cbv) (Nat.zero_le _) ?_
  try dsimp only [AExit.then, AExit.block]
  repeat refine AWp.seq ?_
  refine AWp.reg1 {} hT (fun A hA => by
      have f0 := ar_len hA C n hn
      repeat (cbv; simp only [f0])
      cbv) (Nat.zero_le _) ?_
  try dsimp only [AExit.then, AExit.block]
  refine AWp.block (AWp.loopInv (ι := Int) (fun z => 0 ≤ z ∧ z ≤ n ∧ ∀ i, i < z.toNat → pr i = true) (fun z => (n - z).toNat) [0, 1, 7, 8, 9]
    (fun z => { env := [(0, .d (.list 1 X)), (1, .d (.list 1 C)), (7, .d (.list 1 C)), (8, AI n), (9, AI z)], heap := [], n := 40 }) 0 (by cbv) ⟨Int.le_refl _, by omega, by simp⟩ ?_)
  rintro z ⟨h0, h1, h2⟩
  by_cases hz : z < n
  · obtain ⟨r, hr⟩ : ∃ s, c[z.toNat]? = some s := ⟨_, List.getElem?_eq_getElem (by omega)⟩
    obtain ⟨R, hR⟩ : ∃ R, r.map I = R := ⟨_, rfl⟩
    obtain ⟨k, hk⟩ : ∃ n : Int, (R.length : Int) = n := ⟨_, rfl⟩
    have hrk : (r.length : Int) = k := by rw [← hk, ← hR]; simp
    have hCz : C[z.toNat]? = some (.list 1 R) := by rw [← hC, List.getElem?_map, hr, ← hR]; rfl
    have hcc := cin r (hcr r (List.mem_of_getElem? hr))
    obtain ⟨z1, hz1⟩ : ∃ z1, z + 1 = z1 := ⟨_, rfl⟩
    have hprz := hpr z.toNat
    rw [List.getD_eq_getElem?_getD (i := z.toNat) (l := c), hr] at hprz
    simp only [Option.getD_some] at hprz
    have hno' := hno z.toNat (by omega)
    have hal : r.all in19 = !r.any fun n => !in19 n := by rw [List.not_any_eq_all_not]; simp
    obtain ⟨bad, hbad⟩ : ∃ b, (r.any fun n => !in19 n) = b := ⟨_, rfl⟩
    rw [hbad] at hcc hal
    rw [hR] at hcc
    rw [hal] at hprz
    repeat refine AWp.seq ?_
    refine AWp.reg1 {} hT (fun A hA => by
        have f0 := ar_lt hA hz
        repeat (cbv; simp only [f0])
        cbv) (Nat.zero_le _) ?_
    try dsimp only [AExit.then, AExit.block]
    repeat refine AWp.seq ?_
    refine AWp.cond (b := true) rfl (AWp.skip ?_)
    try dsimp only [AExit.then, AExit.block]
    repeat refine AWp.seq ?_
    refine AWp.block ?_
    repeat refine AWp.seq ?_
    refine AWp.reg1 {} hT (fun A hA => by
        have f0 := ar_get hA hCz
        have f1 := ar_le hA h0
        repeat (cbv; simp only [f0, f1])
        cbv) (Nat.zero_le _) ?_
    try dsimp only [AExit.then, AExit.block]
    by_cases hzm : m ≤ z
    · rw [show decide (z.toNat < x.length) = false by simp; omega] at hprz
      repeat refine AWp.seq ?_
      refine AWp.reg1 {} hT (fun A hA => by
          have f0 := ar_len hA X m hm
          have f1 := ar_le hA hzm
          repeat (cbv; simp only [f0, f1])
          cbv) (Nat.zero_le _) ?_
      try dsimp only [AExit.then, AExit.block]
      repeat refine AWp.seq ?_
      refine AWp.cond (b := true) rfl ?_
      rw [if_pos rfl]
      repeat refine AWp.seq ?_
      refine AWp.reg1 {} hT (fun A hA => by cbv) (Nat.zero_le _) ?_
      try dsimp only [AExit.then, AExit.block]
      obtain rfl := hno' (by rw [hprz]; simp)
      repeat refine AWp.seq ?_
      refine AWp.ret ⟨?_, rfl, rfl, Nat.zero_le _, _, rfl⟩
      rfl
    · rw [show decide (z.toNat < x.length) = true by simp; omega] at hprz
      obtain ⟨L, hL⟩ : ∃ L, x[z.toNat]? = some L := ⟨_, List.getElem?_eq_getElem (by omega)⟩
      obtain ⟨L', hL'⟩ : ∃ L', L.map dAcc = L' := ⟨_, rfl⟩
      obtain ⟨j, hj⟩ : ∃ n : Int, (L'.length : Int) = n := ⟨_, rfl⟩
      have hjL : (L.length : Int) = j := by rw [← hj, ← hL']; simp
      have hs2 := hx.2 L (List.mem_of_getElem? hL)
      have hXt : X[z.toNat]? = some (.list 2 L') := by rw [← hX, List.getElem?_map, hL, ← hL']; rfl
      obtain ⟨j1, hj1⟩ : ∃ z1, j - 1 = z1 := ⟨_, rfl⟩
      obtain ⟨q, hq⟩ : ∃ m, max 0 j1 = m := ⟨_, rfl⟩
      have hmax : ∀ A : Ar, A = Ar.std → A.zmax 0 j1 = q := fun A hA => by subst hA; rw [← hq]; simp only [Ar.std]; split <;> omega
      rw [List.getD_eq_getElem?_getD, hL] at hprz
      simp only [Option.getD_some] at hprz
      by_cases hkq : k = q
      · rw [show decide (r.length = L.length - 1) = true by simp; omega] at hprz
        repeat refine AWp.seq ?_
        refine AWp.region ?_
        refine AOps.stepCall hT (an := {}) (fun A hA => by
            have f0 := ar_len hA X m hm
            have f1 := ar_nle hA hzm
            have f2 := ar_len hA R k hk
            have f3 := ar_get hA hXt
            have f4 := ar_le hA h0
            have f5 := ar_len hA L' j hj
            have f6 := ar_sub hA j 1 j1 hj1 (by omega) (by omega)
            have f7 := hmax A hA
            have f8 := ar_eq hA hkq
            repeat (cbv; simp only [f0, f1, f2, f3, f4, f5, f6, f7, f8])
            cbv) (Nat.zero_le _) rfl (.inr rfl) rfl rfl rfl (Nat.le_of_ble_eq_true rfl) rfl rfl (hcc) ?_
        refine AOps.done hT (an := {}) (fun A hA => by cbv) (Nat.zero_le _) ?_
        try dsimp only [AExit.then, AExit.block]
        cases bad with
        | true =>
          repeat refine AWp.seq ?_
          refine AWp.cond (b := true) rfl ?_
          rw [if_pos rfl]
          repeat refine AWp.seq ?_
          refine AWp.reg1 {} hT (fun A hA => by cbv) (Nat.zero_le _) ?_
          try dsimp only [AExit.then, AExit.block]
          obtain rfl := hno' (by rw [hprz]; rfl)
          repeat refine AWp.seq ?_
          refine AWp.ret ⟨?_, rfl, rfl, Nat.zero_le _, _, rfl⟩
          rfl
        | false =>
          repeat refine AWp.seq ?_
          refine AWp.cond (b := false) rfl (AWp.skip ?_)
          try dsimp only [AExit.then, AExit.block]
          repeat refine AWp.seq ?_
          refine AWp.reg1 {} hT (fun A hA => by
              have f0 := ar_add hA z 1 z1 hz1 (by omega) (by omega)
              repeat (cbv; simp only [f0])
              cbv) (Nat.zero_le _) ?_
          try dsimp only [AExit.then, AExit.block]
          refine ⟨z1, ⟨by omega, by omega, fun i hi => ?_⟩, by omega, by cbv⟩
          rcases Nat.lt_or_ge i z.toNat with h | h
          · exact h2 i h
          · rw [show i = z.toNat by omega, hprz]; rfl
      · rw [show decide (r.length = L.length - 1) = false by simp; omega] at hprz
        repeat refine AWp.seq ?_
        refine AWp.reg1 {} hT (fun A hA => by
            have f0 := ar_len hA X m hm
            have f1 := ar_nle hA hzm
            have f2 := ar_len hA R k hk
            have f3 := ar_get hA hXt
            have f4 := ar_le hA h0
            have f5 := ar_len hA L' j hj
            have f6 := ar_sub hA j 1 j1 hj1 (by omega) (by omega)
            have f7 := hmax A hA
            have f8 := ar_ne hA hkq
            repeat (cbv; simp only [f0, f1, f2, f3, f4, f5, f6, f7, f8])
            cbv) (Nat.zero_le _) ?_
        try dsimp only [AExit.then, AExit.block]
        repeat refine AWp.seq ?_
        refine AWp.cond (b := true) rfl ?_
        rw [if_pos rfl]
        repeat refine AWp.seq ?_
        refine AWp.reg1 {} hT (fun A hA => by cbv) (Nat.zero_le _) ?_
        try dsimp only [AExit.then, AExit.block]
        obtain rfl := hno' (by rw [hprz]; rfl)
        repeat refine AWp.seq ?_
        refine AWp.ret ⟨?_, rfl, rfl, Nat.zero_le _, _, rfl⟩
        rfl
  · rw [List.all_eq_true.2 (fun i hi => h2 i (by have := List.mem_range.1 hi; omega)), Bool.true_and] at hF
    have heq : ∀ A : Ar, A = Ar.std → A.zeq n m = F := fun A hA => by
      subst hA; rw [← hF]
      show decide (n = m) = decide (c.length = x.length)
      by_cases e : n = m
      · rw [decide_eq_true e, decide_eq_true (by omega)]
      · rw [decide_eq_false e, decide_eq_false (by omega)]
    repeat refine AWp.seq ?_
    refine AWp.reg1 {} hT (fun A hA => by
        have f0 := ar_nlt hA hz
        repeat (cbv; simp only [f0])
        cbv) (Nat.zero_le _) ?_
    try dsimp only [AExit.then, AExit.block]
    repeat refine AWp.seq ?_
    refine AWp.cond (b := false) rfl (AWp.exit ?_)
    try dsimp only [AExit.then, AExit.block]
    rw [if_pos rfl]
    repeat refine AWp.seq ?_
    refine AWp.reg1 {} hT (fun A hA => by
        have f0 := ar_len hA C n hn
        have f1 := ar_len hA X m hm
        have f2 := heq A hA
        repeat (cbv; simp only [f0, f1, f2])
        cbv) (Nat.zero_le _) ?_
    try dsimp only [AExit.then, AExit.block]
    repeat refine AWp.seq ?_
    refine AWp.ret ⟨?_, rfl, rfl, Nat.zero_le _, _, rfl⟩
    rfl

/-- What fences cost. -/
def priceF (c : List (List Int)) (f : Fen) : Int := (c.getD f.1.toNat []).getD f.2.toNat 0
def costF (c : List (List Int)) (l : List Fen) : Int := (l.map (priceF c)).sum
def inCost (c : List (List Int)) (f : Fen) : Prop := 0 ≤ f.1 ∧ 0 ≤ f.2 ∧ ∃ r, c[f.1.toNat]? = some r ∧ f.2.toNat < r.length
theorem costF_step (c : List (List Int)) (l : List Fen) (z : Nat) (f : Fen) (h : l[z]? = some f) : costF c (l.take (z + 1)) = costF c (l.take z) + priceF c f := by
  unfold costF
  rw [List.take_add_one, h, List.map_append, List.sum_append]; simp
theorem cost_ok (c : List (List Int)) (l : List Fen) (hc : ∀ r ∈ c, ∀ n ∈ r, 0 ≤ n ∧ n ≤ 9) (hl : l.length ≤ 1000000000) (hin : ∀ f ∈ l, inCost c f) : ACall P 94 [.d (dCost c), .d (.list 2 (l.map dFen))] [] (AI (costF c l)) [] := by
  unfold dCost
  obtain ⟨C, hC⟩ : ∃ X, c.map dRow = X := ⟨_, rfl⟩
  obtain ⟨L, hL⟩ : ∃ X, l.map dFen = X := ⟨_, rfl⟩
  obtain ⟨n, hn⟩ : ∃ n : Int, (L.length : Int) = n := ⟨_, rfl⟩
  have hln : (l.length : Int) = n := by rw [← hn, ← hL]; simp
  rw [hC, hL]
  refine ACall.enter hT (fn := Try.f94) Try.func94 rfl (by decide) (by simp [Try.f94]) rfl rfl rfl rfl (Nat.le_refl _) ?_
  repeat refine AWp.seq ?_
  refine AWp.reg1 {} hT (fun A hA => by cbv) (Nat.zero_le _) ?_
  try dsimp only [AExit.then, AExit.block]
  repeat refine AWp.seq ?_
  refine AWp.reg1 {} hT (fun A hA => by cbv) (Nat.zero_le _) ?_
  try dsimp only [AExit.then, AExit.block]
  repeat refine AWp.seq ?_
  refine AWp.reg1 {} hT (fun A hA => by
      have f0 := ar_len hA L n hn
      repeat (cbv; simp only [f0])
      cbv) (Nat.zero_le _) ?_
  try dsimp only [AExit.then, AExit.block]
  refine AWp.block (AWp.loopInv (ι := Int × Int) (fun p => 0 ≤ p.1 ∧ p.1 ≤ n ∧ p.2 = costF c (l.take p.1.toNat) ∧ 0 ≤ p.2 ∧ p.2 ≤ p.1 * 9) (fun p => (n - p.1).toNat) [0, 5, 8, 9, 10]
    (fun p => { env := [(0, .d (.list 1 C)), (5, AI p.2), (8, .d (.list 2 L)), (9, AI n), (10, AI p.1)], heap := [], n := 27 }) (0, 0) (by cbv) ⟨Int.le_refl _, by dsimp only; omega, by simp [costF], by simp, by simp⟩ ?_)
  rintro ⟨z, s⟩ ⟨h0, h1, h2, h3, h4⟩
  dsimp only at *
  by_cases hz : z < n
  · obtain ⟨⟨t, g⟩, hf⟩ : ∃ s, l[z.toNat]? = some s := ⟨_, List.getElem?_eq_getElem (by omega)⟩
    have hLz : L[z.toNat]? = some (.agg [I t, I g]) := by rw [← hL, List.getElem?_map, hf]; rfl
    obtain ⟨q0, q1, r, hr, hg⟩ := hin _ (List.mem_of_getElem? hf)
    dsimp only at q0 q1 hr hg
    obtain ⟨R, hR⟩ : ∃ R, r.map I = R := ⟨_, rfl⟩
    have hCt : C[t.toNat]? = some (.list 1 R) := by rw [← hC, List.getElem?_map, hr, ← hR]; rfl
    obtain ⟨v, hv⟩ : ∃ v, r[g.toNat]? = some v := ⟨_, List.getElem?_eq_getElem hg⟩
    have hRg : R[g.toNat]? = some (I v) := by rw [← hR, List.getElem?_map, hv]; rfl
    have hv9 := hc r (List.mem_of_getElem? hr) v (List.mem_of_getElem? hv)
    have hstep := costF_step c l z.toNat (t, g) hf
    have hpv : priceF c (t, g) = v := by
      unfold priceF
      rw [List.getD_eq_getElem?_getD, List.getD_eq_getElem?_getD, hr]
      simp only [Option.getD_some, hv]
    obtain ⟨z1, hz1⟩ : ∃ z1, z + 1 = z1 := ⟨_, rfl⟩
    obtain ⟨s1, hs1⟩ : ∃ z1, s + v = z1 := ⟨_, rfl⟩
    rw [hpv, ← h2, hs1, show z.toNat + 1 = z1.toNat by omega] at hstep
    repeat refine AWp.seq ?_
    refine AWp.reg1 {} hT (fun A hA => by
        have f0 := ar_lt hA hz
        repeat (cbv; simp only [f0])
        cbv) (Nat.zero_le _) ?_
    try dsimp only [AExit.then, AExit.block]
    repeat refine AWp.seq ?_
    refine AWp.cond (b := true) rfl (AWp.skip ?_)
    try dsimp only [AExit.then, AExit.block]
    repeat refine AWp.seq ?_
    refine AWp.block ?_
    repeat refine AWp.seq ?_
    refine AWp.reg1 {} hT (fun A hA => by
        have f0 := ar_get hA hLz
        have f1 := ar_le hA h0
        repeat (cbv; simp only [f0, f1])
        cbv) (Nat.zero_le _) ?_
    try dsimp only [AExit.then, AExit.block]
    repeat refine AWp.seq ?_
    refine AWp.reg1D {} hT rfl (fun A hA => by
        have f0 := ar_get hA hCt
        have f1 := ar_le hA q0
        have f2 := ar_get hA hRg
        have f3 := ar_le hA q1
        have f4 := ar_add hA s v s1 hs1 (by omega) (by omega)
        repeat (cbv; simp only [f0, f1, f2, f3, f4])
        cbv) (by kernel_rfl) (Nat.zero_le _) ?_
    try dsimp only [AExit.then, AExit.block]
    repeat refine AWp.seq ?_
    refine AWp.reg1 {} hT (fun A hA => by
        have f0 := ar_add hA z 1 z1 hz1 (by omega) (by omega)
        repeat (cbv; simp only [f0])
        cbv) (Nat.zero_le _) ?_
    try dsimp only [AExit.then, AExit.block]
    exact ⟨(z1, s1), ⟨by dsimp only; omega, by dsimp only; omega, hstep.symm, by dsimp only; omega, by dsimp only; omega⟩, by dsimp only; omega, by cbv⟩
  · rw [List.take_of_length_le (by omega)] at h2
    subst h2
    obtain ⟨S, hS⟩ : ∃ S, costF c l = S := ⟨_, rfl⟩
    rw [hS]
    repeat refine AWp.seq ?_
    refine AWp.reg1 {} hT (fun A hA => by
        have f0 := ar_nlt hA hz
        repeat (cbv; simp only [f0])
        cbv) (Nat.zero_le _) ?_
    try dsimp only [AExit.then, AExit.block]
    repeat refine AWp.seq ?_
    refine AWp.cond (b := false) rfl (AWp.exit ?_)
    try dsimp only [AExit.then, AExit.block]
    rw [if_pos rfl]
    repeat refine AWp.seq ?_
    refine AWp.reg1 {} hT (fun A hA => by cbv) (Nat.zero_le _) ?_
    try dsimp only [AExit.then, AExit.block]
    repeat refine AWp.seq ?_
    refine AWp.ret ⟨?_, rfl, rfl, Nat.zero_le _, _, rfl⟩
    rfl
end Go.Am
