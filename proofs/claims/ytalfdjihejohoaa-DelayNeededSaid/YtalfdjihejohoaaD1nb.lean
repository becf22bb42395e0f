/- Own text: D1nb. -/
import Derived.Test.YtalfdjihejohoaaD1na
set_option maxRecDepth 100000
set_option linter.unusedVariables false
set_option linter.unusedSimpArgs false
namespace Go.Am
open Go Go.Proofs

abbrev kSta : List CK := [.int .i64, .int .i64, .int .i64]

theorem needed_ok (x : List (List Acc)) (hx : Small x) (hlen : (stations x).length ≤ 4000000000) : ACall P 77 [.d (dX x)] [] (.d (.list 3 ((neededL x).map dSta))) [] := by
  have ccs := fun (A1 A2 B : List (D × D) → Obj) hAB hy => circles_ok2 A1 A2 B hAB putStep x hx hy []
  have hget : ∀ s, mget (putAll [] (circles x).flatten) (dSta s) = if inCircle x s then some (.bool true) else none := fun s => by
    rw [putAll_get]; rfl
  have hrun := runY_put (circles x) []
  obtain ⟨es, hes⟩ : ∃ es, putAll [] (circles x).flatten = es := ⟨_, rfl⟩
  rw [hes] at hget hrun
  have hcl := fun s (o2 : Obj) (h2 : o2.inb 4 = true) L => needed1_ok s es o2 h2 L (inCircle x s) (hget s)
  have hnd : neededL x = (pairsL x).filter (inCircle x) := rfl
  rw [hnd]
  have hps : stations x ≠ [] → ∃ (m : Int) (tl : List D), ((pairsL x).length : Int) = m ∧ ACall P 73 [.d (dX x)] [.map true kSta es, .cells [.map 0]] (.mref 3 3 0 m) [.map true kSta es, .cells [.map 0], .cells [.d (dX x)], .arr 3 ((pairsL x).map dSta ++ tl)] :=
    fun hne => pairs_ok2 x hx hlen hne _ _ rfl rfl rfl rfl rfl rfl
  have hp0 : stations x = [] → ACall P 73 [.d (dX x)] [] (.d (.list 3 [])) [] ∧ pairsL x = [] := fun h => by
    have := pairs_ok x hx hlen
    have h2 : pairsL x = [] := by unfold pairsL; rw [h]; rfl
    rw [h2] at this
    exact ⟨this, h2⟩
  have hpl : (pairsL x).length ≤ 4000000000 := Nat.le_trans (List.length_filter_le _ _) hlen
  obtain ⟨pl, hpl'⟩ : ∃ pl, pairsL x = pl := ⟨_, rfl⟩
  rw [hpl'] at hps hp0 hpl ⊢
  obtain ⟨p, hp⟩ : ∃ p, inCircle x = p := ⟨_, rfl⟩
  rw [hp] at hcl ⊢
  simp only [hrun] at ccs
  obtain ⟨X, hX⟩ : ∃ X, dX x = X := ⟨_, rfl⟩
  rw [hX] at hps hp0 ⊢
  simp only [hX] at ccs
  have hX2 : ∃ k Z, X = .list k Z := ⟨_, _, by rw [← hX]; rfl⟩
  obtain ⟨kx, Z, rfl⟩ := hX2
  refine ACall.enterT hT (fn := Try.f77) Try.func77 rfl (by decide) (by simp [Try.f77]) rfl rfl rfl rfl (Nat.le_refl _) ?_
  refine AWpT.seq (AWpT.of ?_)
  repeat refine AWp.seq ?_
  refine AWp.reg1 {} hT (fun A hA => by cbv) (Nat.zero_le _) ?_
  try dsimp only [AExit.then, AExit.block]
  refine AWpT.seq (AWpT.of ?_)
  repeat refine AWp.seq ?_
  refine AWp.reg1 {esc := [3]} hT (fun A hA => by cbv) (Nat.zero_le _) ?_
  try dsimp only [AExit.then, AExit.block]
  refine AWpT.seq (AWpT.seq (AWpT.of ?_))
  repeat refine AWp.seq ?_
  refine AWp.reg1 {} hT (fun A hA => by cbv) (Nat.zero_le _) ?_
  try dsimp only [AExit.then, AExit.block]
  refine AWpT.block ?_
  refine AWpT.rangeFunc (st := .ready) (pend := none) [3] rfl (Nat.zero_le _) ?_ ?_ ?_ (ccs (fun es => .map true kSta es) (fun _ => .cells [.map 0]) (fun _ => .loop _) ?_ ?_) ?_ ?_ ?_
  · rfl
  · rfl
  · rfl
  · intro s k hk
    refine ⟨rfl, ?_, ?_⟩
    · show (decide (0 < k) && true) = true
      simp; omega
    · show (decide (1 < k) && true) = true
      simp; omega
  · intro es l hl
    obtain ⟨L, hL⟩ : ∃ L, l.map dSta = L := ⟨_, rfl⟩
    obtain ⟨n, hn⟩ : ∃ n : Int, (L.length : Int) = n := ⟨_, rfl⟩
    have hln : (l.length : Int) = n := by rw [← hn, ← hL]; simp
    have hpa : putAll es l = putAll es (l.take n.toNat) := by rw [List.take_of_length_le (by omega)]
    have hstep : ∀ (z : Nat) (s : Sta), l[z]? = some s → putAll es (l.take (z + 1)) = mput (putAll es (l.take z)) (dSta s) (.bool true) := fun z s hs => by
      rw [List.take_add_one, hs]
      unfold putAll
      rw [Option.toList_some, List.foldl_append]
      rfl
    unfold putStep
    dsimp only
    rw [hL, hpa]
    refine YCall.mk (y := 2) rfl rfl rfl rfl rfl rfl (Nat.le_refl _) ?_
    repeat refine AWp.seq ?_
    refine AWp.reg1 {} hT (fun A hA => by cbv) (Nat.le_of_ble_eq_true rfl) ?_
    try dsimp only [AExit.then, AExit.block]
    refine ⟨rfl, rfl, ?_⟩
    generalize hLB : Obj.loop { st := .busy, pending := _, env := _, n := _, params := _, assign := _, body := _ } = LB
    refine AWp.block ?_
    repeat refine AWp.seq ?_
    refine AWp.reg1 {} hT (fun A hA => by
        have f0 := ar_len hA L n hn
        repeat (cbv; simp only [f0])
        cbv) (Nat.le_of_ble_eq_true rfl) ?_
    try dsimp only [AExit.then, AExit.block]
    refine AWp.block (AWp.loopInv (ι := Int × List (D × D)) (fun p => 0 ≤ p.1 ∧ p.1 ≤ n ∧ p.2 = putAll es (l.take p.1.toNat)) (fun p => (n - p.1).toNat) [3, 11, 12, 13]
      (fun p => { env := [(3, .ptr 1 0), (11, .d (.list 3 L)), (12, AI n), (13, AI p.1)], heap := [.map true kSta p.2, .cells [.map 0], LB], n := 24 }) (0, es) (by cbv) ⟨Int.le_refl _, by dsimp only; omega, rfl⟩ ?_)
    rintro ⟨z, e⟩ ⟨h0, h1, h2⟩
    dsimp only at *
    by_cases hz : z < n
    · obtain ⟨z1, hz1⟩ : ∃ z1, z + 1 = z1 := ⟨_, rfl⟩
      obtain ⟨⟨a, b, c⟩, hs⟩ : ∃ s, l[z.toNat]? = some s := ⟨_, List.getElem?_eq_getElem (by omega)⟩
      have hLs : L[z.toNat]? = some (.agg [I a, I b, I c]) := by rw [← hL, List.getElem?_map, hs]; rfl
      obtain ⟨e', he'⟩ : ∃ e', mput e (.agg [I a, I b, I c]) (.bool true) = e' := ⟨_, rfl⟩
      have hput : ∀ A : Ar, A = Ar.std → A.mput e (.agg [I a, I b, I c]) (.bool true) = e' := fun A hA => by subst hA; exact he'
      repeat refine AWp.seq ?_
      refine AWp.reg1 {} hT (fun A hA => by
          have f0 := ar_lt hA hz
          repeat (cbv; simp only [f0])
          cbv) (Nat.le_of_ble_eq_true rfl) ?_
      try dsimp only [AExit.then, AExit.block]
      repeat refine AWp.seq ?_
      refine AWp.cond (b := true) rfl (AWp.skip ?_)
      try dsimp only [AExit.then, AExit.block]
      repeat refine AWp.seq ?_
      refine AWp.block ?_
      repeat refine AWp.seq ?_
      refine AWp.reg1 {} hT (fun A hA => by
          have f0 := ar_get hA hLs
          have f1 := ar_le hA h0
          repeat (cbv; simp only [f0, f1])
          cbv) (Nat.le_of_ble_eq_true rfl) ?_
      try dsimp only [AExit.then, AExit.block]
      repeat refine AWp.seq ?_
      refine AWp.reg1 {} hT (fun A hA => by
          have f0 := hput A hA
          repeat (cbv; simp only [f0])
          cbv) (Nat.le_of_ble_eq_true rfl) ?_
      try dsimp only [AExit.then, AExit.block]
      repeat refine AWp.seq ?_
      refine AWp.reg1 {} hT (fun A hA => by
          have f0 := ar_add hA z 1 z1 hz1 (by omega) (by omega)
          repeat (cbv; simp only [f0])
          cbv) (Nat.le_of_ble_eq_true rfl) ?_
      try dsimp only [AExit.then, AExit.block]
      refine ⟨(z1, e'), ⟨by dsimp only; omega, by dsimp only; omega, ?_⟩, by dsimp only; omega, by cbv⟩
      dsimp only
      rw [show z1.toNat = z.toNat + 1 by omega, hstep _ _ hs, ← h2, ← he']; rfl
    · repeat refine AWp.seq ?_
      refine AWp.reg1 {} hT (fun A hA => by
          have f0 := ar_nlt hA hz
          repeat (cbv; simp only [f0])
          cbv) (Nat.le_of_ble_eq_true rfl) ?_
      try dsimp only [AExit.then, AExit.block]
      repeat refine AWp.seq ?_
      refine AWp.cond (b := false) rfl (AWp.exit ?_)
      try dsimp only [AExit.then, AExit.block]
      rw [if_pos rfl]
      have : z = n := by omega
      subst this
      subst h2 hLB
      exact ⟨rfl, rfl, [], rfl⟩
  · simp
  · rfl
  · dsimp only [AWpT.behind, AExit.then, AExit.block]
    refine AWpT.of ?_
    refine AWp.fit [0, 3] 2 (Nat.zero_le _) rfl ?_
    by_cases he : stations x = []
    · obtain ⟨c73, hnil⟩ := hp0 he
      have hde := delete98e 117 [.ptr 1 0] [.map true kSta es, .cells [.map 0]] rfl rfl rfl
      rw [hnil]
      repeat refine AWp.seq ?_
      refine AWp.region ?_
      refine AOps.stepCall hT (an := {}) (fun A hA => by cbv) (Nat.zero_le _) rfl (.inr rfl) rfl rfl rfl (Nat.le_of_ble_eq_true rfl) rfl rfl (c73) ?_
      refine AOps.stepCallW hT (an := {}) (fun A hA => by cbv) (Nat.zero_le _) (by first | rfl | exact hin) (by first | rfl | simp [inbL, AV.inb, hbs]) rfl (Nat.le_of_ble_eq_true rfl) rfl (by first | rfl | simp [AV.free, hbf]) (hde) ?_
      refine AOps.done hT (an := {}) (fun A hA => by cbv) (Nat.zero_le _) ?_
      try dsimp only [AExit.then, AExit.block]
      repeat refine AWp.seq ?_
      refine AWp.ret ⟨?_, rfl, rfl, Nat.zero_le _, _, rfl⟩
      rfl
    · obtain ⟨m, tl, hm, c73⟩ := hps he
      obtain ⟨m', Y, hm0, hm1, hY, hde⟩ := delete98m3 pl 117 [.ptr 1 0] (.map true kSta es) (.cells [.map 0]) (.cells [.d (.list kx Z)]) (fun s => !p s) rfl rfl rfl rfl rfl m hm (by omega) tl (fun s _ L => hcl s _ rfl L)
      have hY' : Ar.std.sub Y 0 (0 + m') = (pl.filter p).map dSta := by
        rw [std_sub0 _ _ hm0, hY]; simp
      obtain ⟨R, hR⟩ : ∃ R, (pl.filter p).map dSta = R := ⟨_, rfl⟩
      obtain ⟨PL, hPL⟩ : ∃ R, pl.map dSta ++ tl = R := ⟨_, rfl⟩
      rw [hPL] at c73 hde
      rw [hR] at hY' ⊢
      repeat refine AWp.seq ?_
      refine AWp.region ?_
      refine AOps.stepCallW hT (an := {}) (fun A hA => by cbv) (Nat.zero_le _) (by first | rfl | exact hin) (by first | rfl | simp [inbL, AV.inb, hbs]) rfl (Nat.le_of_ble_eq_true rfl) rfl (by first | rfl | simp [AV.free, hbf]) (c73) ?_
      refine AOps.stepCallW hT (an := {}) (fun A hA => by cbv) (Nat.zero_le _) (by first | rfl | exact hin) (by first | rfl | simp [inbL, AV.inb, hbs]) rfl (Nat.le_of_ble_eq_true rfl) rfl (by first | rfl | simp [AV.free, hbf]) (hde) ?_
      refine AOps.done hT (an := {}) (fun A hA => by cbv) (Nat.zero_le _) ?_
      try dsimp only [AExit.then, AExit.block]
      refine AWp.freeze (s := 2) (i := 3) (k := 3) (lo := 0) (n := m') (l := Y) (l' := R) rfl rfl (by omega) hY' ?_
      refine AWp.ret ⟨rfl, rfl, rfl, Nat.zero_le _, _, rfl⟩
end Go.Am
